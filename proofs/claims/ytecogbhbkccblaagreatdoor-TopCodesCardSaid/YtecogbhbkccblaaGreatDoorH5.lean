/- tokens: streams; their packed kind.
   tokens: streams of the coded kind. -/
import Derived.Test.YtecogbhbkccblaaGreatDoorH4
set_option maxRecDepth 4000
set_option maxHeartbeats 40000000
set_option linter.all false
namespace Go.Proofs.YtecogbhbkccblaaGreatDoor
open Go.RowKit


abbrev enQ (p : Value × Nat) : List Value := [p.1, .int .i64 (p.2 : Int)]
/-- blocks of a stream, frozen: their bytes and bits -/
def PtsOk (H : Hp) (es : List (Value × Nat)) (ds : List (List Nat × Nat)) : Prop := es.length = ds.length ∧ ∀ (i : Nat) (d : List Nat × Nat), ds[i]? = some d → ∃ v, es[i]? = some (v, d.2) ∧ NSl H .u8 v d.1
theorem PtsOk.nil {H : Hp} : PtsOk H [] [] := ⟨rfl, fun i d h => by simp at h⟩
theorem PtsOk.mono {H H' : Hp} {es : List (Value × Nat)} {ds : List (List Nat × Nat)} (h : PtsOk H es ds) (hl : H.le H') : PtsOk H' es ds := ⟨h.1, fun i d hd => by
  obtain ⟨v, e1, e2⟩ := h.2 i d hd
  exact ⟨v, e1, e2.mono hl⟩⟩
theorem PtsOk.snoc {H : Hp} {es : List (Value × Nat)} {ds : List (List Nat × Nat)} (h : PtsOk H es ds) {v : Value} {b : List Nat} {n : Nat} (hv : NSl H .u8 v b) : PtsOk H (es ++ [(v, n)]) (ds ++ [(b, n)]) := by
  refine ⟨by simp [h.1], fun i d hd => ?_⟩
  rcases Nat.lt_or_ge i ds.length with hi | hi
  · rw [List.getElem?_append_left hi] at hd
    obtain ⟨u, e1, e2⟩ := h.2 i d hd
    exact ⟨u, by rw [List.getElem?_append_left (by rw [h.1]; exact hi)]; exact e1, e2⟩
  · rw [List.getElem?_append_right hi] at hd
    have h0 : i - ds.length = 0 := by
      rcases Nat.eq_zero_or_pos (i - ds.length) with h0 | h0
      · exact h0
      · rw [List.getElem?_eq_none (show ([(b, n)] : List (List Nat × Nat)).length ≤ i - ds.length from h0)] at hd; cases hd
    rw [h0] at hd
    simp at hd
    subst hd
    exact ⟨v, by rw [List.getElem?_append_right (by rw [h.1]; exact hi), h.1, h0]; rfl, hv⟩
/-- the lengths that a kind keeps -/
def lnK (kd : Nat) (ns : List Nat) : List Nat := if kd = 0 then [] else tabF (cntsS ns).length (fS ns)
/-- a block of a kind -/
def ptK (kd : Nat) (ns c : List Nat) : List Nat × Nat := if kd = 0 then (packV c, 0) else (packB (symBits (fS ns) (oS ns) c), (symBits (fS ns) (oS ns) c).length)
abbrev StB (sb n kd : Nat) (lv bv : Value) (last : Nat) (blk : Value) : Nat × Obj := (sb, .cells #[.int .i64 (n : Int), .int .i64 (kd : Int), lv, bv, .int .i64 (last : Int), blk] 97 (0, 0))
/-- a stream, its block the walk's own -/
structure StrOk (H : Hp) (sb kd : Nat) (ns : List Nat) (lv bv : Value) (es : List (Value × Nat)) (last : Nat) (blk : Value) : Prop where
  len : NSl H .i64 lv (lnK kd ns)
  row : RowL enQ 2 H bv es
  pts : PtsOk H es ((chunks ns).map (ptK kd ns))
  blk : (last = 0 ∧ blk = .slice none 0 0) ∨ ∃ k, last = k + 1 ∧ NSl H .i64 blk (chunk ns k)
theorem StrOk.mono {H H' : Hp} {sb kd : Nat} {ns : List Nat} {lv bv : Value} {es : List (Value × Nat)} {last : Nat} {blk : Value} (h : StrOk H sb kd ns lv bv es last blk) (hl : H.le H') : StrOk H' sb kd ns lv bv es last blk :=
  ⟨h.len.mono hl, h.row.mono hl, h.pts.mono hl, by
    rcases h.blk with h1 | ⟨k, h1, h2⟩
    · exact .inl h1
    · exact .inr ⟨k, h1, h2.mono hl⟩⟩
theorem tsize_fn (sb n kd k : Nat) (lv bv : Value) (last : Nat) (blk : Value) (H : Hp) (hk : 64 * k ≤ n) (hn : n ≤ 4096) : FnW Tryz.prog 73 #[.pointer (some ⟨sb, 0, none⟩), .int .i64 (k : Int)] H [StB sb n kd lv bv last blk] (fun u H' l' => u = .int .i64 ((min 64 (n - 64 * k) : Nat) : Int) ∧ H' = H ∧ l' = [StB sb n kd lv bv last blk]) := by
  refine FnW.of_T (vs := [.pointer (some ⟨sb, 0, none⟩), .int .i64 (k : Int)]) Tryz.func73 rfl rfl fun w => ?_; refine J13 ?_; refine sv (PV.min2 rfl rfl) ?_; refine J2 ?_
  refine T.retW (Lv.finW _ (List.Sublist.refl _) (RV.tmp rfl rfl) ⟨?_, rfl, rfl⟩)
  congr 1
  omega
structure PkG where
  k : Nat
  z : Nat
  bv : Value
  lv : List (Nat × Obj)
  es : List (Value × Nat)
  H : Hp
theorem packed_fn (ns : List Nat) (av : Value) (H : Hp) (ha : NSl H .i64 av ns) (hl : ns.length ≤ 4096) (hb : ∀ v ∈ ns, v < 65536) : FnW Tryz.prog 29 #[av] H [] (fun u H' l' => H.le H' ∧ ∃ sb bv es, u = .pointer (some ⟨sb, 0, none⟩) ∧ l' = [StB sb ns.length 0 (.slice none 0 0) bv 0 (.slice none 0 0)] ∧ StrOk H' sb 0 ns (.slice none 0 0) bv es 0 (.slice none 0 0)) := by
  obtain ⟨ad, cap, rfl⟩ := ha.len
  have hcap := SlR.cap ha
  refine FnW.of_T (vs := [.slice ad ns.length cap]) Tryz.func29 rfl rfl fun w => ?_; refine J8 ?_; refine yq39 ?_; (refine T.box Wanted.none rfl rfl zq15 ?_; intro b10); refine J8 ?_
  have hlc := chunks_len ns
  refine T.loopK [(3, Value.pointer (some { block := b10, off := 0 })), (0, Value.slice ad ns.length cap)] zq8 (γ := PkG) (fun g => g.z = 64 * g.k ∧ g.k ≤ (chunks ns).length ∧ H.le g.H ∧ RowV 130 enQ 2 g.bv g.lv g.es ∧ PtsOk g.H g.es (((chunks ns).take g.k).map (ptK 0 ns))) (fun g => [(4, .int .i64 (g.z : Int))]) (fun g => StB b10 ns.length 0 (.slice none 0 0) g.bv 0 (.slice none 0 0) :: g.lv) (fun g => g.H) (fun g => (chunks ns).length - g.k) ⟨0, 0, .slice none 0 0, [], [], H⟩ ⟨rfl, Nat.zero_le _, Hp.le.refl _, Vec.nil _ _, PtsOk.nil⟩ zq8 zq23 rfl ?_
  rintro ⟨k, z, bv, lv, es, H1⟩ ⟨hz, hk, hle, hrow, hpt⟩
  dsimp only at hz hk hle hrow hpt ⊢
  obtain ⟨ab, cb, rfl⟩ := hrow.val
  have hel := hpt.1
  rw [List.length_map, List.length_take] at hel
  by_cases h : k < (chunks ns).length
  · have hch := chunks_get (ns := ns) (k := k) zO
    have hd : decide ((z : Int) < (ns.length : Int)) = true := decide_eq_true zO
    have hsl := NSl.slice (ha.mono hle) (lo := z) (hi := min (z + 64) ns.length) zO zO
    have hck : (ns.drop z).take (min (z + 64) ns.length - z) = chunk ns k := by
      unfold chunk
      rw [hz]
      rcases Nat.lt_or_ge ns.length (64 * k + 64) with h1 | h1
      · rw [List.take_of_length_le (by rw [List.length_drop]; omega), List.take_of_length_le (by rw [List.length_drop]; omega)]
      · rw [show min (64 * k + 64) ns.length - 64 * k = 64 by omega]
    rw [hck] at hsl
    have hcl := chunk_len ns (k := k) zO
    have hp := pack_fn (chunk ns k) _ H1 hsl zO (fun v hv => hb v (chunk_mem hv))
    have hp : Fn Tryz.prog 64 #[slV 1 ad (z : Int).toNat (min ((z : Int) + 64) (ns.length : Int)).toNat cap] H1 (fun u H' => ∃ v, u = .tuple #[v, .int .i64 0] ∧ NSl H' .u8 v (packV (chunk ns k))) := by
      rw [show (z : Int).toNat = z from rfl, show (min ((z : Int) + 64) (ns.length : Int)).toNat = min (z + 64) ns.length by omega]
      exact hp
    refine J8 ?_; refine yq9 ?_; refine J11 ?_; refine sv (PV.min2 rfl rfl) ?_; refine sv (PV.sliceLH rfl rfl rfl zO) ?_; (refine T.call Wanted.none rfl rfl hp ?_; rintro _ H2 hle2 ⟨v, rfl, hv⟩; obtain ⟨av, cv, rfl⟩ := hv.len); refine J13 ?_; refine yq39 ?_; (refine T.buildSlice Wanted.none rfl rfl zq11 zX zX ?_; intro b36); (refine T.appendP (lv := lv) Wanted.none rfl rfl rfl hrow (Src.cells (m := 1) (ys := enQ (.slice av (packV (chunk ns k)).length cv, 0)) (.own zq2) rfl rfl) (by intro u hu; simp only [enQ, List.mem_cons, List.not_mem_nil, or_false] at hu; rcases hu with rfl | rfl <;> rfl) zO zq1 ?_; intro v37 lv37 hv37 _; have hv37 := RowV.snoc (enc := enQ) hv37; obtain ⟨ad37, cap37, rfl⟩ := hv37.val); refine J2 ?_; refine yq1 ?_; refine so ?_
    refine J6 ?_
    refine T.nextP ⟨k + 1, z + 64, _, lv37, es ++ [(.slice av (packV (chunk ns k)).length cv, 0)], H2⟩ ⟨by dsimp only; omega, by dsimp only; omega, hle.trans hle2, hv37, ?_⟩ zE zq8 zq23 rfl
    dsimp only
    rw [List.take_add_one, hch, List.map_append]
    exact (hpt.mono hle2).snoc hv
  · have hd : decide ((z : Int) < (ns.length : Int)) = false := decide_eq_false zO
    refine J8 ?_; refine yq85 ?_
    obtain rfl : k = (chunks ns).length := by omega
    rw [List.take_length] at hpt
    refine T.freezeP hrow zq1 ?_
    intro H2 hle2 hrow2
    exact T.retW (Lv.finW [StB b10 ns.length 0 (.slice none 0 0) (.slice ab es.length cb) 0 (.slice none 0 0)] zq4 (RV.tmp rfl rfl) ⟨hle.trans hle2, b10, _, es, rfl, rfl, NSl.nil, hrow2, hpt.mono hle2, .inl ⟨rfl, rfl⟩⟩)

end Go.Proofs.YtecogbhbkccblaaGreatDoor
namespace Go.Proofs.YtecogbhbkccblaaGreatDoor
open Go.RowKit


theorem mxS_succ {ns : List Nat} {i x : Nat} (h : ns[i]? = some x) : mxS (ns.take (i + 1)) = max (mxS (ns.take i)) (x + 1) := by
  unfold mxS
  rw [List.take_add_one, h, Option.toList_some, List.foldl_append]
  rfl
theorem mxS_le {ns : List Nat} {B : Nat} (h : ∀ v ∈ ns, v < B) : mxS ns ≤ B := mx_le ns 0 B (Nat.zero_le _) h
theorem codeS {ns : List Nat} (h : ∀ v ∈ ns, v < 1000) : CodeOk (fS ns) (cntsS ns).length :=
  ⟨oS_ord (B := 1000) zD h, fS_le (B := 1000) zD h, by rw [cntsS_len]; exact mxS_le h⟩
theorem maxI (a b : Nat) : max ((a : Nat) : Int) ((b : Nat) : Int) = ((max a b : Nat) : Int) := by omega
structure CdsG where
  k : Nat
  z : Nat
  bv : Value
  lv : List (Nat × Obj)
  es : List (Value × Nat)
  H : Hp
theorem coded_fn (ns : List Nat) (av : Value) (H : Hp) (ha : NSl H .i64 av ns) (hl : ns.length ≤ 4096) (hb : ∀ v ∈ ns, v < 1000) : FnW Tryz.prog 30 #[av] H [] (fun u H' l' => H.le H' ∧ ∃ sb lv bv es, u = .pointer (some ⟨sb, 0, none⟩) ∧ l' = [StB sb ns.length 1 lv bv 0 (.slice none 0 0)] ∧ StrOk H' sb 1 ns lv bv es 0 (.slice none 0 0)) := by
  have hco := codeS hb
  have hmx := mxS_le hb
  have hmg := (mx_ge ns 0).2
  obtain ⟨m, hm⟩ : ∃ m, m = mxS ns := ⟨_, rfl⟩
  rw [← hm] at hmx
  obtain ⟨ad, cap, rfl⟩ := ha.len
  have hcap := SlR.cap ha
  refine FnW.of_T (vs := [.slice ad ns.length cap]) Tryz.func30 rfl rfl fun w => ?_; refine J16 ?_; refine T.loopK [(15, Value.int IntKind.i64 (↑ns.length : Int)), (14, Value.slice ad ns.length cap), (0, Value.slice ad ns.length cap)] zq8 (γ := Nat) (fun i => i ≤ ns.length) (fun i => [(16, .int .i64 (i : Int)), (3, .int .i64 (mxS (ns.take i) : Int))]) (fun _ => []) (fun _ => H) (fun i => ns.length - i) 0 (Nat.zero_le _) zq8 zq23 rfl ?_
  intro i hi
  by_cases h : i < ns.length
  · obtain ⟨x, hx⟩ : ∃ x, ns[i]? = some x := ⟨_, List.getElem?_eq_getElem h⟩
    have hx1 := hb x (List.mem_of_getElem? hx)
    obtain ⟨b, off, rfl, hsub⟩ := NSl.at ha hx
    have hd : decide ((i : Int) < (ns.length : Int)) = true := decide_eq_true zO
    refine yq94 ?_; refine J6 ?_; refine sv (PV.max2 rfl rfl) ?_; refine J7 ?_
    refine T.nextP (i + 1) zO zO ?_ zq23 rfl
    rw [mxS_succ hx, ← maxI]
    exact zq8
  · have hd : decide ((i : Int) < (ns.length : Int)) = false := decide_eq_false zO
    obtain rfl : i = ns.length := by omega
    rw [List.take_length, ← hm]
    refine yq44 ?_; refine J4 ?_; (refine T.makeSliceN (n := m) Wanted.none rfl rfl rfl zO ?_; intro v26 lv26 hv26; rw [nV_rep] at hv26; obtain ⟨ad26, cap26, rfl⟩ := hv26.val); refine J10 ?_
    have hlen0 : Vec 3 1 (.slice ad26 m cap26) lv26 m (nV .i64 (tabF m (fun s => (ns.take 0).count s))) := by
      rw [show (fun s : Nat => (ns.take 0).count s) = fun _ => 0 from funext fun s => by rw [List.take_zero, List.count_nil], tabF_zero]
      exact hv26
    refine T.loopK [(28, Value.int IntKind.i64 (↑ns.length : Int)), (27, Value.slice ad ns.length cap), (6, Value.slice ad26 m cap26), (0, Value.slice ad ns.length cap)] zq8 (γ := LiG) (fun g => g.i ≤ ns.length ∧ Vec 3 1 (.slice ad26 m cap26) g.lv m (nV .i64 (tabF m (fun s => (ns.take g.i).count s)))) (fun g => [(29, .int .i64 (g.i : Int))]) (fun g => g.lv) (fun _ => H) (fun g => ns.length - g.i) ⟨0, lv26⟩ ⟨Nat.zero_le _, hlen0⟩ zq8 zq23 rfl ?_
    rintro ⟨i, lv⟩ ⟨hi, hv⟩
    dsimp only at hi hv ⊢
    by_cases h : i < ns.length
    · obtain ⟨x, hx⟩ : ∃ x, ns[i]? = some x := ⟨_, List.getElem?_eq_getElem h⟩
      have hxm := hmg x (List.mem_of_getElem? hx)
      have hxm : x < m := by rw [hm]; exact hxm
      obtain ⟨b, off, rfl, hsub⟩ := NSl.at ha hx
      obtain ⟨bq, cq, hve⟩ := hv.ptr zO
      injection hve with e1 e2 e3
      subst e1 e3
      obtain ⟨y, hy⟩ : ∃ y, y = (ns.take i).count x := ⟨_, rfl⟩
      have hyl : y ≤ 4096 := by
        have h1 := List.count_le_length (a := x) (l := ns.take i)
        rw [List.length_take] at h1
        omega
      have hld : (nV .i64 (tabF m (fun s => (ns.take i).count s)))[0 + (x : Int).toNat * 1]? = some (.int .i64 (y : Int)) := by
        rw [Nat.zero_add, Nat.mul_one, Int.toNat_natCast, hy]
        exact nV_get (tabF_get (fun s => (ns.take i).count s) hxm)
      have hd : decide ((i : Int) < (ns.length : Int)) = true := decide_eq_true zO
      refine yq94 ?_; refine J6 ?_; refine yq92 ?_; refine J2 ?_; (refine T.storeVecP (lv := lv) Wanted.none rfl rfl rfl hv (by rw [Nat.zero_add, Nat.mul_one, Int.toNat_natCast, nV_len, tabF_len]; exact hxm) zq1 ?_; intro lv3 hv3); refine J6 ?_
      rw [Nat.zero_add, Nat.mul_one, Int.toNat_natCast] at hv3
      have hst : (nV .i64 (tabF m (fun s => (ns.take i).count s))).set x (.int .i64 ((y : Int) + 1)) = nV .i64 (tabF m (fun s => (ns.take (i + 1)).count s)) := by
        have h1 := nV_set .i64 (tabF m (fun s => (ns.take i).count s)) x (y + 1)
        have hg := (List.getElem?_eq_some_iff.1 hx).2
        rw [tabF_set, hy, ← hg, cnt_step h, hg, ← hy] at h1
        exact h1
      rw [hst] at hv3
      exact T.nextP ⟨i + 1, lv3⟩ ⟨by dsimp only; omega, hv3⟩ zE zq8 zq23 rfl
    · have hd : decide ((i : Int) < (ns.length : Int)) = false := decide_eq_false zO
      obtain rfl : i = ns.length := by omega
      rw [List.take_length, hm, ← cntsS_tab] at hv
      refine T.freezeP (xs := nV .i64 (cntsS ns)) hv zq1 ?_
      intro H1 hle1 hs1
      rw [← cntsS_len ns] at hs1
      have hcl : (cntsS ns).length = m := by rw [cntsS_len, hm]
      have hlf := lengths_fn (cntsS ns) _ H1 hs1 zO (fun x hx => by
        rw [cntsS_tab] at hx
        obtain ⟨s, _, rfl⟩ := List.mem_map.1 hx
        have := List.count_le_length (a := s) (l := ns)
        omega)
      rw [hcl] at hlf
      refine yq44 ?_; refine J5 ?_; refine yq39 ?_; (refine T.box Wanted.none rfl rfl zq15 ?_; intro b43); refine J6 ?_; (refine T.call Wanted.none rfl rfl hlf ?_; rintro _ H2 hle2 ⟨v, rfl, hv⟩; obtain ⟨av, cv, rfl⟩ := hv.len); refine J5 ?_; refine yq1 ?_; refine J7 ?_
      rw [show tabF m (lensH (cntsS ns)) = tabF (cntsS ns).length (fS ns) by rw [hcl]; rfl] at hv ⊢
      have hlc := chunks_len ns
      have hle02 := hle1.trans hle2
      refine T.loopK [(9, Value.pointer (some { block := b43, off := 0 })), (0, Value.slice ad ns.length cap)] zq8 (γ := CdsG) (fun g => g.z = 64 * g.k ∧ g.k ≤ (chunks ns).length ∧ H2.le g.H ∧ RowV 130 enQ 2 g.bv g.lv g.es ∧ PtsOk g.H g.es (((chunks ns).take g.k).map (ptK 1 ns))) (fun g => [(10, .int .i64 (g.z : Int))]) (fun g => StB b43 ns.length 1 (.slice av (tabF (cntsS ns).length (fS ns)).length cv) g.bv 0 (.slice none 0 0) :: g.lv) (fun g => g.H) (fun g => (chunks ns).length - g.k) ⟨0, 0, .slice none 0 0, [], [], H2⟩ ⟨rfl, Nat.zero_le _, Hp.le.refl _, Vec.nil _ _, PtsOk.nil⟩ zq8 zq23 rfl ?_
      rintro ⟨k, z, bv, lv, es, H3⟩ ⟨hz, hk, hle, hrow, hpt⟩
      dsimp only at hz hk hle hrow hpt ⊢
      obtain ⟨ab, cb, rfl⟩ := hrow.val
      have hel := hpt.1
      rw [List.length_map, List.length_take] at hel
      by_cases h : k < (chunks ns).length
      · have hch := chunks_get (ns := ns) (k := k) zO
        have hd : decide ((z : Int) < (ns.length : Int)) = true := decide_eq_true zO
        have hsl := NSl.slice (ha.mono (hle02.trans hle)) (lo := z) (hi := min (z + 64) ns.length) zO zO
        have hck : (ns.drop z).take (min (z + 64) ns.length - z) = chunk ns k := by
          unfold chunk
          rw [hz]
          rcases Nat.lt_or_ge ns.length (64 * k + 64) with h1 | h1
          · rw [List.take_of_length_le (by rw [List.length_drop]; omega), List.take_of_length_le (by rw [List.length_drop]; omega)]
          · rw [show min (64 * k + 64) ns.length - 64 * k = 64 by omega]
        rw [hck] at hsl
        have hcl := chunk_len ns (k := k) zO
        have hp := hencode_fn (fS ns) (cntsS ns).length (chunk ns k) _ _ H3 (hv.mono hle) hsl hco zO (fun s hs => (oS_mem (B := 1000) zD hb).2 (chunk_mem hs))
        have hp : Fn Tryz.prog 66 #[.slice av (tabF (cntsS ns).length (fS ns)).length cv, slV 1 ad (z : Int).toNat (min ((z : Int) + 64) (ns.length : Int)).toNat cap] H3 (fun u H' => ∃ v, u = .tuple #[v, .int .i64 ((symBits (fS ns) (oS ns) (chunk ns k)).length : Int), .int .i64 0] ∧ NSl H' .u8 v (packB (symBits (fS ns) (oS ns) (chunk ns k)))) := by
          rw [show (z : Int).toNat = z from rfl, show (min ((z : Int) + 64) (ns.length : Int)).toNat = min (z + 64) ns.length by omega]
          exact hp
        refine J8 ?_; refine yq9 ?_; refine J3 ?_
        (repeat refine sq ?_)
        refine T.regionOl zK ?_; refine yq49 ?_; refine yq35 ?_; refine yq71 ?_; refine yq12 ?_; refine TO.take 7 rfl zK zK zK (PV.add rfl rfl zO) Wanted.none rfl rfl ?_; refine TO.take 8 rfl zK zK zK (PV.move rfl) Wanted.none rfl rfl ?_; refine TO.take 9 rfl zK zK zK (PV.lenSl rfl) Wanted.none rfl rfl ?_; refine TO.take 10 rfl zK zK zK (PV.min2 rfl rfl) Wanted.none rfl rfl ?_; refine TO.take 11 rfl zK zK zK (PV.sliceLH rfl rfl rfl zO) Wanted.none rfl rfl ?_; refine TO.step 12 rfl zK zq4 zq19 ?_; (refine T.call Wanted.none rfl rfl hp ?_; rintro _ H4 hle4 ⟨v4, rfl, hv4⟩; obtain ⟨a4, c4, rfl⟩ := hv4.len); refine yq30 ?_; refine TO.take 13 rfl zK zK zK (PV.move rfl) Wanted.none rfl rfl ?_; refine TO.take 14 rfl zK zK zK (PV.extract rfl rfl) Wanted.none rfl rfl ?_; refine TO.take 15 rfl zK zK zK (PV.extract rfl rfl) Wanted.none rfl rfl ?_; refine TO.take 16 rfl zK zK zK (PV.extract rfl rfl) Wanted.none rfl rfl ?_; refine TO.take 17 rfl zK zK zK (PV.assign rfl) Wanted.none rfl rfl ?_; refine TO.take 18 rfl zK zK zK (PV.assign rfl) Wanted.none rfl rfl ?_; refine TO.take 19 rfl zK zK zK (PV.assign rfl) Wanted.none rfl rfl ?_; refine yq37 ?_; refine J8 ?_; refine yq39 ?_; (refine T.buildSlice Wanted.none rfl rfl zq11 zX zX ?_; intro b83); (refine T.appendP (lv := lv) Wanted.none rfl rfl rfl hrow (Src.cells (m := 1) (ys := enQ (.slice a4 (packB (symBits (fS ns) (oS ns) (chunk ns k))).length c4, (symBits (fS ns) (oS ns) (chunk ns k)).length)) (.own zq2) rfl rfl) (by intro u hu; simp only [enQ, List.mem_cons, List.not_mem_nil, or_false] at hu; rcases hu with rfl | rfl <;> rfl) zO zq1 ?_; intro v84 lv84 hv84 _; have hv84 := RowV.snoc (enc := enQ) hv84; obtain ⟨ad84, cap84, rfl⟩ := hv84.val); refine J2 ?_; refine yq1 ?_; refine so ?_
        refine J6 ?_
        refine T.nextP ⟨k + 1, z + 64, _, lv84, es ++ [(.slice a4 (packB (symBits (fS ns) (oS ns) (chunk ns k))).length c4, (symBits (fS ns) (oS ns) (chunk ns k)).length)], H4⟩ ⟨by dsimp only; omega, by dsimp only; omega, hle.trans hle4, hv84, ?_⟩ zE zq8 zq23 rfl
        dsimp only
        rw [List.take_add_one, hch, List.map_append]
        exact (hpt.mono hle4).snoc hv4
      · have hd : decide ((z : Int) < (ns.length : Int)) = false := decide_eq_false zO
        refine J8 ?_; refine yq85 ?_
        obtain rfl : k = (chunks ns).length := by omega
        rw [List.take_length] at hpt
        refine T.freezeP hrow zq1 ?_
        intro H4 hle4 hrow4
        exact T.retW (Lv.finW [StB b43 ns.length 1 (.slice av (tabF (cntsS ns).length (fS ns)).length cv) (.slice ab es.length cb) 0 (.slice none 0 0)] zq4 (RV.tmp rfl rfl) ⟨hle02.trans (hle.trans hle4), b43, _, _, es, rfl, rfl, hv.mono (hle.trans hle4), hrow4, hpt.mono hle4, .inl ⟨rfl, rfl⟩⟩)

end Go.Proofs.YtecogbhbkccblaaGreatDoor
