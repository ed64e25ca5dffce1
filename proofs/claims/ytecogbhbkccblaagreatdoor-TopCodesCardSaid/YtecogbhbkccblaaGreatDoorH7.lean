/- tokens: a block's numbers; At.
   tokens: reading a packed stream. -/
import Derived.Test.YtecogbhbkccblaaGreatDoorH6
set_option maxRecDepth 4000
set_option maxHeartbeats 40000000
set_option linter.all false
namespace Go.Proofs.YtecogbhbkccblaaGreatDoor
open Go.RowKit


theorem tdecode_fn (kd : Nat) (ns : List Nat) (sb k : Nat) (lv bv : Value) (es : List (Value × Nat)) (last : Nat) (blk : Value) (H : Hp) (hk : kd ≤ 1) (hs : StrOk H sb kd ns lv bv es last blk) (hl : ns.length ≤ 4096) (hb : ∀ v ∈ ns, v < 1000) (hkl : k < (chunks ns).length) (hla : last ≤ 10000) : FnW Tryz.prog 47 #[.pointer (some ⟨sb, 0, none⟩), .int .i64 (k : Int)] H [StB sb ns.length kd lv bv last blk] (fun u H' l' => H.le H' ∧ NSl H' .i64 u (chunk ns k) ∧ l' = [StB sb ns.length kd lv bv (k + 1) u] ∧ StrOk H' sb kd ns lv bv es (k + 1) u) := by
  have hs0 := hs
  obtain ⟨hlen, hrow, hpts, hblk⟩ := hs
  have hlc := chunks_len ns
  have hch := chunks_get (ns := ns) (k := k) zO
  have hcl := chunk_len ns (k := k) zO
  have hel := hpts.1
  rw [List.length_map] at hel
  by_cases hq : last = k + 1
  · have hd : decide ((last : Int) = (k : Int) + 1) = true := decide_eq_true zO
    have hc : NSl H .i64 blk (chunk ns k) := by
      rcases hblk with ⟨h1, _⟩ | ⟨k', h1, h2⟩
      · omega
      · obtain rfl : k' = k := by omega
        exact h2
    obtain ⟨ak, ck, rfl⟩ := hc.len
    refine FnW.of_T (vs := [.pointer (some ⟨sb, 0, none⟩), .int .i64 (k : Int)]) Tryz.func47 rfl rfl fun w => ?_; refine J15 ?_; refine yq9 ?_; refine J8 ?_
    subst hq
    exact T.retW (Lv.finW [StB sb ns.length kd lv bv (k + 1) (.slice ak (chunk ns k).length ck)] zq4 (RV.tmp rfl rfl) ⟨Hp.le.refl _, hc, rfl, hs0⟩)
  · have hd : decide ((last : Int) = (k : Int) + 1) = false := decide_eq_false zO
    have hob : ∃ a n c, blk = .slice a n c := by
      rcases hblk with ⟨_, h1⟩ | ⟨k', _, h2⟩
      · exact ⟨_, _, _, h1⟩
      · obtain ⟨a, c, e⟩ := h2.len
        exact ⟨a, _, c, e⟩
    obtain ⟨a0, n0, c0, rfl⟩ := hob
    obtain ⟨vb, hve, hvb⟩ := hpts.2 k (ptK kd ns (chunk ns k)) (by rw [List.getElem?_map, hch]; rfl)
    obtain ⟨al, cl, rfl⟩ := hlen.len
    obtain ⟨ab, cb, rfl⟩ := hrow.len
    rcases Nat.lt_or_ge kd 1 with h | h
    · obtain rfl : kd = 0 := by omega
      have hvb : NSl H .u8 vb (packV (chunk ns k)) := hvb
      have hve : es[k]? = some (vb, 0) := hve
      obtain ⟨avb, cvb, rfl⟩ := hvb.len
      obtain ⟨b, off, rfl, hsub⟩ := RowL.at lenQ hrow hve
      have hu := unpack_fn (chunk ns k) _ H hvb zO (fun v hv => by have := hb v (chunk_mem hv); omega)
      refine FnW.of_T (vs := [.pointer (some ⟨sb, 0, none⟩), .int .i64 (k : Int)]) Tryz.func47 rfl rfl fun w => ?_; refine J15 ?_; refine yq6 ?_; refine J23 ?_; refine sv (PV.loadSub rfl zA rfl) ?_; (refine T.call Wanted.none rfl rfl hu ?_; rintro _ H1 hle1 ⟨v31, rfl, hv31⟩; obtain ⟨ad31, cap31, rfl⟩ := hv31.len); refine J2 ?_
      refine J12 ?_; refine yq1 ?_; refine J2 ?_; refine yq1 ?_; refine J6 ?_
      exact T.retW (Lv.finW [StB sb ns.length 0 (.slice al (lnK 0 ns).length cl) (.slice (some ⟨b, off, none⟩) es.length cb) (k + 1) (.slice ad31 (chunk ns k).length cap31)] zq4 (RV.tmp rfl rfl) ⟨hle1, hv31, rfl, hlen.mono hle1, hrow.mono hle1, hpts.mono hle1, .inr ⟨k, rfl, hv31⟩⟩)
    · obtain rfl : kd = 1 := by omega
      obtain ⟨B, hB⟩ : ∃ B, B = symBits (fS ns) (oS ns) (chunk ns k) := ⟨_, rfl⟩
      have hvb : NSl H .u8 vb (packB B) := hB ▸ hvb
      have hve : es[k]? = some (vb, B.length) := hB ▸ hve
      obtain ⟨avb, cvb, rfl⟩ := hvb.len
      obtain ⟨b, off, rfl, hsub⟩ := RowL.at lenQ hrow hve
      have hu := hdecode_fn (fS ns) (cntsS ns).length (chunk ns k) [] B _ _ H hlen (by rw [List.append_nil]; exact hvb) zD (codeS hb) zO (fun s hs => (oS_mem (B := 1000) zD hb).2 (chunk_mem hs)) hB
      rw [hcl] at hu
      have hz := tsize_fn sb ns.length 1 k (.slice al (lnK 1 ns).length cl) (.slice (some ⟨b, off, none⟩) es.length cb) last (.slice a0 n0 c0) H zO hl
      refine FnW.of_T (vs := [.pointer (some ⟨sb, 0, none⟩), .int .i64 (k : Int)]) Tryz.func47 rfl rfl fun w => ?_; refine J15 ?_; refine yq6 ?_; refine J15 ?_; refine T.regionOl zK ?_; refine yq49 ?_; refine yq35 ?_; refine yq71 ?_; refine TO.take 5 rfl zK zK zK (PV.nilCheck rfl) Wanted.none rfl rfl ?_; refine TO.take 6 rfl zK zK zK (PV.fieldAddr rfl) Wanted.none rfl rfl ?_; refine TO.take 7 rfl zK zK zK (PV.load1 rfl zq0 rfl) Wanted.none rfl rfl ?_; refine yq46 ?_; refine TO.take 10 rfl zK zK zK (PV.fieldAddr rfl) Wanted.none rfl rfl ?_
      refine TO.take 11 rfl zK zK zK (PV.loadSub rfl zA rfl) Wanted.none rfl rfl ?_; refine TO.take 12 rfl zK zK zK (PV.move rfl) Wanted.none rfl rfl ?_; refine TO.take 13 rfl zK zK zK (PV.nilCheck rfl) Wanted.none rfl rfl ?_; refine TO.take 14 rfl zK zK zK (PV.fieldAddr rfl) Wanted.none rfl rfl ?_; refine TO.take 15 rfl zK zK zK (PV.load1 rfl zq0 rfl) Wanted.none rfl rfl ?_; refine TO.take 16 rfl zK zK zK (PV.move rfl) Wanted.none rfl rfl ?_; refine TO.take 17 rfl zK zK zK (PV.indexAddr rfl rfl zO) Wanted.none rfl rfl ?_; refine TO.take 18 rfl zK zK zK (PV.fieldAddr rfl) Wanted.none rfl rfl ?_; refine TO.take 19 rfl zK zK zK (PV.loadSub rfl zA rfl) Wanted.none rfl rfl ?_; refine TO.take 20 rfl zK zK zK (PV.move rfl) Wanted.none rfl rfl ?_; refine TO.take 21 rfl zK zK zK (PV.move rfl) Wanted.none rfl rfl ?_; refine TO.step 22 rfl zK zq4 zq19 ?_; refine T.callWV Wanted.none rfl rfl hz zq1 ?_; refine yq30 ?_; refine TO.step 23 rfl zK zq4 zq19 ?_; (refine T.call Wanted.none rfl rfl hu ?_; rintro _ H1 hle1 ⟨v58, rfl, hv58⟩; obtain ⟨ad58, cap58, rfl⟩ := hv58.len); refine yq30 ?_; refine TO.take 24 rfl zK zK zK (PV.move rfl) Wanted.none rfl rfl ?_; refine TO.take 25 rfl zK zK zK (PV.extract rfl rfl) Wanted.none rfl rfl ?_; refine TO.take 26 rfl zK zK zK (PV.extract rfl rfl) Wanted.none rfl rfl ?_; refine TO.take 27 rfl zK zK zK (PV.assign rfl) Wanted.none rfl rfl ?_; refine yq37 ?_; refine J9 ?_; refine yq1 ?_; refine J2 ?_; refine yq1 ?_; refine J6 ?_
      exact T.retW (Lv.finW [StB sb ns.length 1 (.slice al (lnK 1 ns).length cl) (.slice (some ⟨b, off, none⟩) es.length cb) (k + 1) (.slice ad58 (chunk ns k).length cap58)] zq4 (RV.tmp rfl rfl) ⟨hle1, hv58, rfl, hlen.mono hle1, hrow.mono hle1, hpts.mono hle1, .inr ⟨k, rfl, hv58⟩⟩)
theorem tat_fn (kd : Nat) (ns : List Nat) (sb i x : Nat) (lv bv : Value) (es : List (Value × Nat)) (last : Nat) (blk : Value) (H : Hp) (hk : kd ≤ 1) (hs : StrOk H sb kd ns lv bv es last blk) (hl : ns.length ≤ 4096) (hb : ∀ v ∈ ns, v < 1000) (hx : ns[i]? = some x) (hla : last ≤ 10000) : FnW Tryz.prog 19 #[.pointer (some ⟨sb, 0, none⟩), .int .i64 (i : Int)] H [StB sb ns.length kd lv bv last blk] (fun u H' l' => H.le H' ∧ u = .tuple #[.int .i64 (x : Int), .bool true] ∧ ∃ last' blk', last' ≤ 10000 ∧ l' = [StB sb ns.length kd lv bv last' blk'] ∧ StrOk H' sb kd ns lv bv es last' blk') := by
  have hi := (List.getElem?_eq_some_iff.1 hx).1
  have hlc := chunks_len ns
  obtain ⟨hi1, hi2⟩ := chunk_in hi
  have hca := chunk_at ns i
  rw [hx] at hca
  have hdc := tdecode_fn kd ns sb (i / 64) lv bv es last blk H hk hs hl hb zO hla
  have hq : (i : Int).tdiv 64 = ((i / 64 : Nat) : Int) := rfl
  have hr : (i : Int).tmod 64 = ((i % 64 : Nat) : Int) := rfl
  rw [← hq] at hdc
  obtain ⟨z, hz⟩ : ∃ z, z = i % 64 := ⟨_, rfl⟩
  rw [← hz] at hr hca hi2
  have hd0 : decide ((i : Int) < 0) = false := decide_eq_false zO
  have hd1 : decide ((ns.length : Int) ≤ (i : Int)) = false := decide_eq_false zO
  refine FnW.of_T (vs := [.pointer (some ⟨sb, 0, none⟩), .int .i64 (i : Int)]) Tryz.func19 rfl rfl fun w => ?_; refine J19 ?_; refine yq6 ?_; refine J5 ?_; refine sv (PV.quo rfl rfl zO zO) ?_; (refine T.callW Wanted.none rfl rfl hdc zq1 ?_; rintro v19 H1 _ _ ⟨hle1, hv19, rfl, hs1⟩; obtain ⟨ad19, cap19, rfl⟩ := hv19.len; obtain ⟨b, off, rfl, hsub⟩ := NSl.at hv19 hca); refine J3 ?_
  rw [hr]
  refine yq10 ?_; refine J3 ?_
  exact T.retW (Lv.finW [StB sb ns.length kd lv bv (i / 64 + 1) (.slice (some ⟨b, off, none⟩) (chunk ns (i / 64)).length cap19)] zq4 (RV.tmp2 rfl rfl rfl) ⟨hle1, rfl, _, _, by omega, rfl, hs1⟩)

end Go.Proofs.YtecogbhbkccblaaGreatDoor
namespace Go.Proofs.YtecogbhbkccblaaGreatDoor
open Go.RowKit


theorem tbytes_fn (rb : Nat) (v : Value) (a rest : List Nat) (H : Hp) (hv : NSl H .u8 v (a ++ rest)) (ha : a.length ≤ 10000000) (hr : rest.length ≤ 10000000) : FnW Tryz.prog 70 #[.pointer (some ⟨rb, 0, none⟩), .int .i64 (a.length : Int)] H [tNumberB rb v] (fun u H' l' => H' = H ∧ NSl H .u8 u a ∧ ∃ v', l' = [tNumberB rb v'] ∧ NSl H .u8 v' rest) := by
  obtain ⟨ad, cap, rfl⟩ := hv.len
  have hlen : (a ++ rest).length = a.length + rest.length := List.length_append
  have hcap := SlR.cap hv
  have hs := NSl.suf hv (lo := a.length) zO
  rw [List.drop_left] at hs
  have hp : NSl H .u8 (.slice ad a.length cap) a := by
    have := SlR.pre hv (hi := a.length) zO
    rw [Nat.mul_one, nV_take, List.take_left] at this
    exact this
  have hd : decide (((a ++ rest).length : Int) < (a.length : Int)) = false := decide_eq_false zO
  refine FnW.of_T (vs := [.pointer (some ⟨rb, 0, none⟩), .int .i64 (a.length : Int)]) Tryz.func70 rfl rfl fun w => ?_; refine J22 ?_; refine yq6 ?_; refine J8 ?_; refine sv (PV.sliceH rfl rfl zO) ?_; refine J10 ?_; refine sv (PV.sliceL rfl rfl zO) ?_; refine sv (PV.nilCheck rfl) ?_
  refine sf ?_; refine yq1 ?_; refine J6 ?_
  exact T.retW (Lv.finW [tNumberB rb (slV 1 ad a.length (a ++ rest).length cap)] zq4 (RV.tmp rfl rfl) ⟨rfl, hp, _, rfl, hs⟩)
structure NmG where
  k : Nat
  v : Value
  ov : Value
  lo : List (Nat × Obj)
  H : Hp
theorem blks_take (kd : Nat) (ns : List Nat) {k : Nat} (h : k < (ns.length + 63) / 64) : ((chunks ns).drop k).flatMap (blK kd ns) = blK kd ns (chunk ns k) ++ ((chunks ns).drop (k + 1)).flatMap (blK kd ns) := by
  have hk : k < (chunks ns).length := by rw [chunks_len]; exact h
  have hg := chunks_get h
  rw [List.getElem?_eq_getElem hk] at hg
  injection hg with hg
  rw [List.drop_eq_getElem_cons hk, hg, List.flatMap_cons]
theorem blks_len {kd : Nat} {ns : List Nat} {B : Nat} (h : ∀ k, k < (ns.length + 63) / 64 → (blK kd ns (chunk ns k)).length ≤ B) : ∀ k j, k + j = (chunks ns).length → (((chunks ns).drop k).flatMap (blK kd ns)).length ≤ B * j
  | k, 0, hk => by rw [List.drop_of_length_le zO]; simp
  | k, j + 1, hk => by
    have hlc := chunks_len ns
    rw [blks_take kd ns zO, List.length_append, Nat.mul_succ]
    have h1 := h k zO
    have h2 := blks_len h (k + 1) j zO
    omega
theorem num0_fn (ns : List Nat) (rb : Nat) (v : Value) (H : Hp) (hv : NSl H .u8 v (payP ns)) (hl : ns.length ≤ 4096) (hb : ∀ v ∈ ns, v < 1000) : FnW Tryz.prog 39 #[.pointer (some ⟨rb, 0, none⟩)] H [tNumberB rb v] (fun u H' l' => l' = [] ∧ H.le H' ∧ ∃ w, u = .tuple #[w, .bool true] ∧ NSl H' .i64 w ns) := by
  have hb16 : ∀ v ∈ ns, v < 65536 := fun v hv => by have := hb v hv; omega
  have hlc := chunks_len ns
  have hp2 := putV_len 2 (show 0 < 128 ^ 3 by omega)
  have hfl := fun k j => blks_len (kd := 0) (ns := ns) (B := 2003) (fun k hk => (bl0_len hb16 hk).2) k j
  have hpe : payP ns = putV ns.length ++ (putV 0 ++ ((chunks ns).drop 0).flatMap (blK 0 ns)) := rfl
  rw [hpe] at hv
  have hf0 := hfl 0 (chunks ns).length zO
  have hn1 := tNumber_fn rb v ns.length 4096 _ H hv zO zO zD (by rw [List.length_append]; omega)
  have hn2 := fun v hv => tNumber_fn rb v 0 1 (((chunks ns).drop 0).flatMap (blK 0 ns)) H hv zO zO zD zO
  obtain ⟨ad, cap, rfl⟩ := hv.len
  refine FnW.of_T (vs := [.pointer (some ⟨rb, 0, none⟩)]) Tryz.func39 rfl rfl fun w => ?_; refine J8 ?_; (refine T.callW Wanted.none rfl rfl hn1 zq1 ?_; rintro _ H13 _ _ ⟨rfl, hH13, v1, rfl, hv1⟩; have hH13 := hH13.symm; subst hH13); refine sm ?_; (refine T.callW Wanted.none rfl rfl (hn2 _ hv1) zq1 ?_; rintro _ H15 _ _ ⟨rfl, hH15, v2, rfl, hv2⟩; have hH15 := hH15.symm; subst hH15); refine yq39 ?_; refine sy fun b4 => ?_; refine yq2 ?_; refine J20 ?_; refine T.loopK [(4, Value.pointer (some { block := b4, off := 0 })), (0, Value.pointer (some { block := rb, off := 0 }))] zq8 (γ := NmG) (fun g => g.k ≤ (chunks ns).length ∧ H.le g.H ∧ NSl g.H .u8 g.v (((chunks ns).drop g.k).flatMap (blK 0 ns)) ∧ NRow 3 .i64 g.ov g.lo ((chunks ns).take g.k).flatten) (fun g => [(8, .int .i64 (g.k : Int)), (7, g.ov)]) (fun g => StB b4 ns.length 0 (.slice none 0 0) (.slice none 0 0) 0 (.slice none 0 0) :: tNumberB rb g.v :: g.lo) (fun g => g.H) (fun g => (chunks ns).length - g.k) ⟨0, v2, .slice none 0 0, [], H⟩ ⟨Nat.zero_le _, Hp.le.refl _, hv2, NRow.nil _ _⟩ zq8 zq23 rfl ?_
  rintro ⟨k, v, ov, lo, H1⟩ ⟨hk, hle, hv, ho⟩
  dsimp only at hk hle hv ho ⊢
  obtain ⟨ao, co, rfl⟩ := ho.val
  have hol : (((chunks ns).take k).flatten).length ≤ 4096 := by
    have h1 := congrArg List.length (chunks_join ns)
    rw [← List.take_append_drop k (chunks ns), List.flatten_append, List.length_append] at h1
    omega
  by_cases h : k < (chunks ns).length
  · have hch := chunks_get (ns := ns) (k := k) zO
    obtain ⟨hl1, hl2⟩ := bl0_len (ns := ns) (k := k) hb16 zO
    have hcl := chunk_len ns (k := k) zO
    rw [blks_take 0 ns zO] at hv
    obtain ⟨R, hR⟩ : ∃ R, R = ((chunks ns).drop (k + 1)).flatMap (blK 0 ns) := ⟨_, rfl⟩
    have hRl := hfl (k + 1) ((chunks ns).length - (k + 1)) zO
    rw [← hR] at hv hRl
    obtain ⟨P, hP⟩ : ∃ P, P = packV (chunk ns k) := ⟨_, rfl⟩
    rw [show blK 0 ns (chunk ns k) = putV P.length ++ P by rw [hP]; rfl, List.append_assoc] at hv
    rw [← hP] at hl1
    have hp3 := putV_len 2 (show P.length < 128 ^ 3 by omega)
    have hal : (putV P.length ++ (P ++ R)).length = (putV P.length).length + (P.length + R.length) := by rw [List.length_append, List.length_append]
    have hal2 : (P ++ R).length = P.length + R.length := List.length_append
    have hN := tNumber_fn rb v P.length (putV P.length ++ (P ++ R)).length (P ++ R) H1 hv zO zO zO zO
    have hB := fun v hv => tbytes_fn rb v P R H1 hv zO zO
    have hU := fun v (hv : NSl H1 .u8 v P) => unpack_fn (chunk ns k) v H1 (hP ▸ hv) zO (fun v hv => hb16 v (chunk_mem hv))
    have hz := fun H => tsize_fn b4 ns.length 0 k (.slice none 0 0) (.slice none 0 0) 0 (.slice none 0 0) H zO hl
    obtain ⟨av, cv, rfl⟩ := hv.len
    have hd : decide ((k : Int) * 64 < (ns.length : Int)) = true := decide_eq_true zO
    have hd2 : decide (((chunk ns k).length : Int) ≠ ((min 64 (ns.length - 64 * k) : Nat) : Int)) = false := decide_eq_false zO
    refine J15 ?_; refine yq9 ?_; refine J27 ?_; (refine T.callW Wanted.none rfl rfl hN zq1 ?_; rintro _ H61 _ _ ⟨rfl, hH61, v1, rfl, hv1⟩; have hH61 := hH61.symm; subst hH61); (refine T.callW Wanted.none rfl rfl (hB _ hv1) zq1 ?_; rintro v62 H62 _ _ ⟨hH62, hv62, v2, rfl, hv2⟩; have hH62 := hH62.symm; subst hH62; obtain ⟨ad62, cap62, rfl⟩ := hv62.len)
    (refine T.call Wanted.none rfl rfl (hU _ hv62) ?_; rintro _ H4 hle4 ⟨v4, rfl, hv4⟩; obtain ⟨a4, c4, rfl⟩ := hv4.len); refine J22 ?_; refine T.callWV (Wanted.guard rfl rfl rfl) rfl rfl (hz H4) zq1 ?_; refine J3 ?_; refine yq6 ?_; refine J4 ?_; (refine T.appendP (lv := lo) Wanted.none rfl rfl rfl ho hv4.src (nV_one _ _) zO zq1 ?_; intro v106 lv106 hv106 _; have hv106 := NRow.app hv106; obtain ⟨ad106, cap106, rfl⟩ := hv106.val); refine J8 ?_
    have hst : ((chunks ns).take (k + 1)).flatten = ((chunks ns).take k).flatten ++ chunk ns k := by
      rw [List.take_add_one, hch, List.flatten_append]
      simp only [Option.toList_some, List.flatten_cons, List.flatten_nil, List.append_nil]
    exact T.nextP ⟨k + 1, v2, .slice ad106 (((chunks ns).take k).flatten ++ chunk ns k).length cap106, lv106, H4⟩ ⟨by dsimp only; omega, hle.trans hle4, by dsimp only; rw [← hR]; exact hv2.mono hle4, by dsimp only; rw [hst]; exact hv106⟩ zE zq8 zq23 rfl
  · have hd : decide ((k : Int) * 64 < (ns.length : Int)) = false := decide_eq_false zO
    obtain rfl : k = (chunks ns).length := by omega
    rw [List.take_length, chunks_join] at ho ⊢
    refine J15 ?_; refine yq6 ?_; refine yq119 ?_; refine I8 ?_; refine T.freezeP ho zq1 ?_
    intro H2 hle2 hs2
    exact T.retW (Lv.finW [] zq4 (RV.tmp2 rfl rfl rfl) ⟨rfl, hle.trans hle2, _, rfl, hs2⟩)

end Go.Proofs.YtecogbhbkccblaaGreatDoor
