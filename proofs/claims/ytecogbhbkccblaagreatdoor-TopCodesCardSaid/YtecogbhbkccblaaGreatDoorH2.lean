/- huffman: valid lengths; the order of the symbols; the codes.
   huffman: the codes; encoding.
   huffman: encoding. -/
import Derived.Test.YtecogbhbkccblaaGreatDoorH1
set_option maxRecDepth 4000
set_option maxHeartbeats 40000000
set_option linter.all false
namespace Go.Proofs.YtecogbhbkccblaaGreatDoor
open Go.RowKit


theorem encZ_nV (l : List Nat) : l.flatMap encZi = nV .i64 l := by
  unfold nV
  induction l with
  | nil => rfl
  | cons x l ih => rw [List.flatMap_cons, ih]; rfl
theorem shl1 {n : Nat} (h : n ≤ 15) : shlI .i64 1 (n : Int) = ((2 ^ n : Nat) : Int) := by
  have h2 : 2 ^ n ≤ 2 ^ 15 := Nat.pow_le_pow_right zD h
  have := shl_nat (k := .i64) (a := 1) (n := n) (by have : IntKind.i64.bits = 64 := rfl; omega) zO
  rw [Nat.shiftLeft_eq, Nat.one_mul] at this
  exact this
theorem roomS_le {f : Nat → Nat} (n : Nat) : roomS f n ≤ n * 32768 := by
  induction n with
  | zero => exact Nat.zero_le _
  | succ n ih =>
    have h2 : (if 0 < f n then 2 ^ (15 - f n) else 0) ≤ 32768 := by
      split
      · exact Nat.pow_le_pow_right (n := 2) (j := 15) zD (Nat.sub_le _ _)
      · exact Nat.zero_le _
    rw [roomS_succ, Nat.succ_mul]
    exact Nat.add_le_add ih h2
theorem hvalid_fn (f : Nat → Nat) (n : Nat) (av : Value) (H : Hp) (ha : NSl H .i64 av (tabF n f)) (hn : n ≤ 1000) (hf : ∀ s, f s ≤ 15) (hr : roomS f n ≤ 2 ^ 15) : Fn Tryz.prog 119 #[av] H (fun u _ => u = .bool true) := by
  obtain ⟨ad, cap, rfl⟩ := ha.len
  have hl : (tabF n f).length = n := tabF_len n f
  have h0 : decide ((1024 : Int) < ((tabF n f).length : Int)) = false := decide_eq_false zO
  refine Fn.of_T (vs := [.slice ad (tabF n f).length cap]) Tryz.func119 rfl rfl fun w => ?_; refine J11 ?_; refine yq6 ?_; refine J13 ?_; refine T.loopK [(10, Value.int IntKind.i64 (↑(tabF n f).length : Int)), (9, Value.slice ad (tabF n f).length cap)] zq8 (γ := Nat) (fun i => i ≤ n) (fun i => [(11, .int .i64 (i : Int)), (3, .int .i64 (roomS f i : Int))]) (fun _ => []) (fun _ => H) (fun i => n - i) 0 (Nat.zero_le _) ⟨rfl, rfl, trivial⟩ zq23 rfl ?_
  rintro i hi
  have hri := roomS_le (f := f) i
  by_cases h : i < n
  · have hx : (tabF n f)[i]? = some (f i) := tabF_get f h
    have hx1 := hf i
    obtain ⟨b, off, rfl, hsub⟩ := NSl.at ha hx
    obtain ⟨x, hxe⟩ : ∃ x, x = f i := ⟨_, rfl⟩
    have hsc := roomS_succ f i
    rw [← hxe] at hsub hx1 hsc
    have hd : decide ((i : Int) < ((tabF n f).length : Int)) = true := decide_eq_true zO
    have hd1 : decide ((x : Int) < 0) = false := decide_eq_false zO
    have hd2 : decide ((15 : Int) < (x : Int)) = false := decide_eq_false zO
    have hp : 2 ^ (15 - x) ≤ 2 ^ 15 := Nat.pow_le_pow_right zD zO
    have hsl : shlI .i64 1 (15 - (x : Int)) = ((2 ^ (15 - x) : Nat) : Int) := by
      rw [show (15 : Int) - (x : Int) = ((15 - x : Nat) : Int) by omega]
      exact shl1 zO
    obtain ⟨p, hpe⟩ : ∃ p, p = 2 ^ (15 - x) := ⟨_, rfl⟩
    rw [← hpe] at hsl hp hsc
    by_cases h0 : 0 < x
    · have hd0 : decide ((0 : Int) < (x : Int)) = true := decide_eq_true zO
      rw [if_pos h0] at hsc
      have hsl := hsl
      refine yq94 ?_; refine J12 ?_; refine yq85 ?_; refine yq9 ?_; refine J4 ?_; refine yq105 ?_; refine J6 ?_
      refine J2 ?_
      exact T.nextP (i + 1) zO zO ⟨rfl, by rw [hsc]; exact rfl, by repeat (first | exact trivial | refine And.intro rfl ?_)⟩ zq23 rfl
    · have hd0 : decide ((0 : Int) < (x : Int)) = false := decide_eq_false zO
      rw [if_neg h0, Nat.add_zero] at hsc
      refine yq94 ?_; refine J12 ?_; refine yq85 ?_; refine yq85 ?_
      exact T.nextP (i + 1) zO zO ⟨rfl, by rw [hsc]; exact rfl, by repeat (first | exact trivial | refine And.intro rfl ?_)⟩ zq23 rfl
  · have hd : decide ((i : Int) < ((tabF n f).length : Int)) = false := decide_eq_false zO
    obtain rfl : i = n := by omega
    refine yq44 ?_; refine J7 ?_
    exact T.retF (Lv.fin (RV.tmp rfl rfl) (by rw [decide_eq_true zO]))
theorem lessO_fn (f : Nat → Nat) (n : Nat) (av : Value) (b : Nat) (H : Hp) (ha : NSl H .i64 av (tabF n f)) (hb : H b = some (.cells #[av] 27 (0, 0))) (hf : ∀ s, f s ≤ 15) (x y : Nat) (hx : x < n) (hy : y < n) : Fn Tryz.prog 212 #[.int .i64 (x : Int), .int .i64 (y : Int), .pointer (some ⟨b, 0, none⟩)] H (fun u _ => u = .int .i64 ((f x : Int) - (f y : Int))) := by
  obtain ⟨ad, cap, rfl⟩ := ha.len
  have hl : (tabF n f).length = n := tabF_len n f
  have g1 : (tabF n f)[x]? = some (f x) := tabF_get f hx
  have g2 : (tabF n f)[y]? = some (f y) := tabF_get f hy
  obtain ⟨bb, off, rfl, hs1⟩ := NSl.at ha g1
  obtain ⟨bb2, off2, he, hs2⟩ := NSl.at ha g2
  injection he with he
  injection he with e1 e2
  subst e1 e2
  have f1 := hf x
  have f2 := hf y
  refine Fn.of_T (vs := [.int .i64 (x : Int), .int .i64 (y : Int), .pointer (some ⟨b, 0, none⟩)]) Tryz.func212 rfl rfl fun w => ?_; refine J5 ?_; refine yq70 ?_; refine I3 ?_; refine TQ.pv (PV.loadSub0 rfl zA) Wanted.none rfl rfl ?_; refine I3 ?_; refine TQ.pv (PV.loadSub0 rfl zA) Wanted.none rfl rfl ?_; refine I3 ?_
  exact T.retF (Lv.fin (RV.tmp rfl rfl) rfl)
/-- the symbols that are there, of the first i -/
def prS (f : Nat → Nat) (i : Nat) : List Nat := (List.range i).filter fun s => decide (0 < f s)
theorem prS_succ (f : Nat → Nat) (i : Nat) : prS f (i + 1) = prS f i ++ if 0 < f i then [i] else [] := by
  unfold prS
  rw [List.range_succ, List.filter_append]
  congr 1
  by_cases h : 0 < f i <;> simp [h]
theorem prS_len (f : Nat → Nat) (i : Nat) : (prS f i).length ≤ i := by
  have := List.length_filter_le (fun s => decide (0 < f s)) (List.range i)
  rw [List.length_range] at this
  exact this
structure IoG where
  i : Nat
  v : Value
  lv : List (Nat × Obj)
theorem inOrder_fn (f : Nat → Nat) (n : Nat) (av : Value) (H : Hp) (ha : NSl H .i64 av (tabF n f)) (hn : n ≤ 1000) (hf : ∀ s, f s ≤ 15) : Fn Tryz.prog 179 #[av] H (fun u H' => NSl H' .i64 u (ordH n f)) := by
  obtain ⟨ad, cap, rfl⟩ := ha.len
  have hl : (tabF n f).length = n := tabF_len n f
  refine Fn.of_T (vs := [.slice ad (tabF n f).length cap]) Tryz.func179 rfl rfl fun w => ?_; refine zs3 ?_; (refine T.box Wanted.none rfl rfl zq15 ?_; intro b1); refine J2 ?_; refine T.freezeLit ?_
  intro H1 hle1 hH1
  have ha1 := ha.mono hle1
  refine J12 ?_; refine T.loopK [(7, Value.int IntKind.i64 (↑(tabF n f).length : Int)), (6, Value.slice ad (tabF n f).length cap), (1, Value.pointer (some { block := b1, off := 0 }))] zq8 (γ := IoG) (fun g => g.i ≤ n ∧ RowV 3 encZi 1 g.v g.lv (prS f g.i)) (fun g => [(8, .int .i64 (g.i : Int)), (3, g.v)]) (fun g => g.lv) (fun _ => H1) (fun g => n - g.i) ⟨0, .slice none 0 0, []⟩ ⟨Nat.zero_le _, Vec.nil _ _⟩ zq8 zq23 rfl ?_
  rintro ⟨i, v, lv⟩ ⟨hi, hv⟩
  dsimp only at hi hv ⊢
  obtain ⟨av2, cv2, rfl⟩ := hv.val
  have hpl := prS_len f i
  by_cases h : i < n
  · have hx : (tabF n f)[i]? = some (f i) := tabF_get f h
    have hx1 := hf i
    obtain ⟨b, off, rfl, hsub⟩ := NSl.at ha1 hx
    obtain ⟨x, hxe⟩ : ∃ x, x = f i := ⟨_, rfl⟩
    have hsc := prS_succ f i
    rw [← hxe] at hsub hx1 hsc
    have hd : decide ((i : Int) < ((tabF n f).length : Int)) = true := decide_eq_true zO
    by_cases h0 : 0 < x
    · have hd0 : decide ((0 : Int) < (x : Int)) = true := decide_eq_true zO
      rw [if_pos h0] at hsc
      refine yq98 ?_; refine J8 ?_; refine yq9 ?_; refine J3 ?_; (refine T.buildSlice Wanted.none rfl rfl zq11 zX zX ?_; intro b17); (refine T.appendP (lv := lv) Wanted.none rfl rfl rfl hv (Src.cells (m := 1) (ys := encZi i) (.own zq2) rfl rfl) (by intro u hu; rw [encZi, List.mem_singleton] at hu; subst hu; rfl) zO zq1 ?_; intro v18 lv18 hv18 _); refine J7 ?_
      exact T.nextP ⟨i + 1, v18, lv18⟩ ⟨by dsimp only; omega, by dsimp only; rw [hsc]; exact RowV.snoc hv18⟩ zE zq8 zq23 rfl
    · have hd0 : decide ((0 : Int) < (x : Int)) = false := decide_eq_false zO
      rw [if_neg h0, List.append_nil] at hsc
      refine yq98 ?_; refine J8 ?_; refine yq85 ?_
      exact T.nextP ⟨i + 1, .slice av2 (prS f i).length cv2, lv⟩ ⟨by dsimp only; omega, by dsimp only; rw [hsc]; exact hv⟩ zE zq8 zq23 rfl
  · have hd : decide ((i : Int) < ((tabF n f).length : Int)) = false := decide_eq_false zO
    obtain rfl : i = n := by omega
    have hst := sortZ_fn (fun s => (f s : Int)) (fun s => s < i) 212 [.pointer (some ⟨b1, 0, none⟩)] H1 _ lv _ hv zO (fun x hx => by
      have := (List.mem_filter.1 hx).1
      rwa [List.mem_range] at this) (fun x y hx hy => lessO_fn f i _ b1 H1 ha1 hH1 hf x y hx hy)
    refine yq44 ?_; refine J4 ?_; refine sv (PV.makeFunc rfl) ?_; (refine T.callW Wanted.none rfl rfl hst zq1 ?_; rintro _ H2 lv2 _ ⟨rfl, hH2, hv2⟩; have hH2 := hH2.symm; subst hH2); refine J6 ?_
    have hol : (ordH i f).length = (prS f i).length := stS_len _
    have hv3 : NRow 3 .i64 (.slice av2 (prS f i).length cv2) lv2 (ordH i f) := by
      unfold NRow
      rw [← encZ_nV]
      exact hv2
    refine T.freezeP hv3 zq1 ?_
    intro H2 _ hs2
    exact T.retF (Lv.fin (RV.tmp rfl rfl) hs2)

end Go.Proofs.YtecogbhbkccblaaGreatDoor
namespace Go.Proofs.YtecogbhbkccblaaGreatDoor
open Go.RowKit


/-- lengths of a code: their order is canonical -/
structure CodeOk (f : Nat → Nat) (n : Nat) : Prop where
  ord : Ord f (ordH n f)
  le : ∀ s, f s ≤ 15
  small : n ≤ 1000
theorem CodeOk.room {f : Nat → Nat} {n : Nat} (h : CodeOk f n) : roomS f n ≤ 2 ^ 15 := roomS_ord h.ord
theorem CodeOk.at {f : Nat → Nat} {n : Nat} (h : CodeOk f n) {k : Nat} (hk : k < (ordH n f).length) : (ordH n f)[k] < n ∧ 1 ≤ f (ordH n f)[k] := by
  have := ordH_mem.1 (List.getElem_mem hk)
  exact this
structure CdG where
  k : Nat
  code : Nat
  bef : Nat
  lv : List (Nat × Obj)
theorem codesOf_fn (f : Nat → Nat) (n : Nat) (av : Value) (H : Hp) (ha : NSl H .i64 av (tabF n f)) (hc : CodeOk f n) : Fn Tryz.prog 120 #[av] H (fun u H' => NSl H' .u64 u (codesK f (ordH n f) n (ordH n f).length)) := by
  have hn := hc.small
  have hio := inOrder_fn f n av H ha hn hc.le
  obtain ⟨o, ho⟩ : ∃ o, o = ordH n f := ⟨_, rfl⟩
  have hat := fun k hk => hc.at (k := k) hk
  have hord := hc.ord
  have hnd := ordH_nodup n f
  have hol := ordH_len n f
  rw [← ho] at hio hord hnd hol ⊢
  have hat : ∀ (k : Nat) (hk : k < o.length), o[k] < n ∧ 1 ≤ f o[k] := by subst ho; exact hat
  obtain ⟨ad, cap, rfl⟩ := ha.len
  have hl : (tabF n f).length = n := tabF_len n f
  refine Fn.of_T (vs := [.slice ad (tabF n f).length cap]) Tryz.func120 rfl rfl fun w => ?_; refine J8 ?_; (refine T.makeSliceN (n := (tabF n f).length) Wanted.none rfl rfl rfl zO ?_; intro v10 lv10 hv10; rw [nV_rep, hl] at hv10; obtain ⟨ad10, cap10, rfl⟩ := hv10.val); refine J11 ?_; (refine T.call Wanted.none rfl rfl hio ?_; intro v12 H1 hle1 hv12; obtain ⟨ad12, cap12, rfl⟩ := hv12.len); refine J4 ?_
  have ha1 := ha.mono hle1
  refine T.loopK [(13, Value.int IntKind.i64 (↑o.length : Int)), (12, Value.slice ad12 o.length cap12), (3, Value.slice ad10 n cap10), (0, Value.slice ad (tabF n f).length cap)] zq8 (γ := CdG) (fun g => g.k ≤ o.length ∧ (g.k = 0 → g.code = 0 ∧ g.bef = 0) ∧ (∀ j, g.k = j + 1 → g.code = cdO f o j ∧ g.bef = f (o[j]?.getD 0)) ∧ Vec 76 1 (.slice ad10 n cap10) g.lv n (nV .u64 (codesK f o n g.k))) (fun g => [(14, .int .i64 (g.k : Int)), (4, .int .u64 (g.code : Int)), (5, .int .i64 (g.bef : Int))]) (fun g => g.lv) (fun _ => H1) (fun g => o.length - g.k) ⟨0, 0, 0, lv10⟩ ⟨Nat.zero_le _, fun _ => ⟨rfl, rfl⟩, fun j hj => by dsimp only at hj; omega, by dsimp only; rw [codesK_zero]; exact hv10⟩ zq8 zq23 rfl ?_
  rintro ⟨k, code, bef, lv⟩ ⟨hk, hk0, hk1, hv⟩
  dsimp only at hk hk0 hk1 hv ⊢
  by_cases h : k < o.length
  · obtain ⟨s, hs⟩ : ∃ s, o[k]? = some s := ⟨_, List.getElem?_eq_getElem h⟩
    have hsg := (List.getElem?_eq_some_iff.1 hs).2
    obtain ⟨hsn, hs1⟩ := hat k h
    rw [hsg] at hsn hs1
    obtain ⟨b1, off1, rfl, hsub1⟩ := NSl.at hv12 hs
    have hx : (tabF n f)[s]? = some (f s) := tabF_get f hsn
    obtain ⟨b2, off2, rfl, hsub2⟩ := NSl.at ha1 hx
    obtain ⟨bq, cq, hve⟩ := hv.ptr zO
    injection hve with e1 e2 e3
    subst e1 e3
    have hx15 := hc.le s
    have hstep : (k = 0 → cdO f o 0 = 0) ∧ ∀ j, k = j + 1 → bef ≤ f s ∧ (code + 1) * 2 ^ (f s - bef) = cdO f o k := by
      refine ⟨fun _ => ?_, fun j hj => ?_⟩
      · unfold cdO cdQ
        rw [show sqQ (fun k => f (o[k]?.getD 0)) 0 = 0 from rfl, Nat.zero_div]
      · obtain ⟨h1, h2⟩ := hk1 j hj
        subst hj
        have h3 := cdQ_step hord.can (k := j) h
        have h4 := hord.can.mono j (j + 1) zO h
        rw [hs, Option.getD_some] at h3 h4
        rw [h1, h2]
        exact ⟨h4, h3.symm⟩
    have hcl : cdO f o k < 2 ^ f s := by
      have := cdO_lt hord h
      rw [hs, Option.getD_some] at this
      exact this
    have hp15 : 2 ^ f s ≤ 2 ^ 15 := Nat.pow_le_pow_right zD hx15
    obtain ⟨cd, hcd⟩ : ∃ cd, cd = cdO f o k := ⟨_, rfl⟩
    have hcd15 : cd < 32768 := by rw [hcd]; exact Nat.lt_of_lt_of_le hcl hp15
    have hks := codesK_succ (f := f) (o := o) (n := n) (k := k) hnd h (by rw [hsg]; exact hsn)
    rw [hsg, ← hcd] at hks
    have hfin : ∀ lv3, Vec 76 1 (.slice (some ⟨bq, 0, none⟩) n cap10) lv3 n ((nV .u64 (codesK f o n k)).set (0 + (s : Int).toNat * 1) (.int .u64 (cd : Int))) → Vec 76 1 (.slice (some ⟨bq, 0, none⟩) n cap10) lv3 n (nV .u64 (codesK f o n (k + 1))) := fun lv3 h3 => by
      rw [Nat.zero_add, Nat.mul_one, Int.toNat_natCast, nV_set, ← hks] at h3
      exact h3
    have hd : decide ((k : Int) < (o.length : Int)) = true := decide_eq_true zO
    by_cases hkz : k = 0
    · have hd0 : decide ((0 : Int) < (k : Int)) = false := decide_eq_false zO
      obtain ⟨rfl, rfl⟩ := hk0 hkz
      have hz := hstep.1 hkz
      have hcz : cd = 0 := by rw [hcd, hkz]; exact hz
      refine yq98 ?_; refine J9 ?_; refine yq6 ?_; refine J8 ?_; refine yq10 ?_; refine sv (PV.indexAddr rfl rfl zO) ?_; (refine T.storeVecP (lv := lv) Wanted.none rfl rfl rfl hv (by rw [Nat.zero_add, Nat.mul_one, Int.toNat_natCast, nV_len, codesK_len]; exact hsn) zq1 ?_; intro lv3 hv3); refine J7 ?_
      refine T.nextP ⟨k + 1, cd, f s, lv3⟩ ⟨by dsimp only; omega, fun h => by dsimp only at h; omega, fun j hj => ?_, hfin lv3 (by rw [hcz]; exact hv3)⟩ zE ⟨rfl, by rw [hcz]; exact rfl, by repeat (first | exact trivial | refine And.intro rfl ?_)⟩ zq23 rfl
      dsimp only at hj ⊢
      obtain rfl : j = k := by omega
      rw [hs]
      exact ⟨hcd, rfl⟩
    · have hd0 : decide ((0 : Int) < (k : Int)) = true := decide_eq_true zO
      obtain ⟨hbl, hce⟩ := hstep.2 (k - 1) zO
      rw [← hcd] at hce
      have hpp : 1 ≤ 2 ^ (f s - bef) := Nat.two_pow_pos _
      have hcc : code + 1 ≤ cd := by
        rw [← hce]
        exact Nat.le_mul_of_pos_right _ hpp
      have hsl : shlI .u64 ((code : Int) + 1) ((f s : Int) - (bef : Int)) = (cd : Int) := by
        rw [show (code : Int) + 1 = ((code + 1 : Nat) : Int) by omega, show (f s : Int) - (bef : Int) = ((f s - bef : Nat) : Int) by omega]
        have := shl_nat (k := .u64) (a := code + 1) (n := f s - bef) (by have : IntKind.u64.bits = 64 := rfl; omega) (by rw [hce]; omega)
        rw [Nat.shiftLeft_eq, hce] at this
        exact this
      refine yq98 ?_; refine J9 ?_; refine yq9 ?_; refine J2 ?_; refine sv (PV.addB rfl rfl zO) ?_; refine J3 ?_; refine yq10 ?_; refine J2 ?_; refine yq105 ?_; refine J9 ?_; refine yq10 ?_
      refine sv (PV.indexAddr rfl rfl zO) ?_; (refine T.storeVecP (lv := lv) Wanted.none rfl rfl rfl hv (by rw [Nat.zero_add, Nat.mul_one, Int.toNat_natCast, nV_len, codesK_len]; exact hsn) zq1 ?_; intro lv3 hv3); refine J7 ?_
      refine T.nextP ⟨k + 1, cd, f s, lv3⟩ ⟨by dsimp only; omega, fun h => by dsimp only at h; omega, fun j hj => ?_, hfin lv3 hv3⟩ zE zq8 zq23 rfl
      dsimp only at hj ⊢
      obtain rfl : j = k := by omega
      rw [hs]
      exact ⟨hcd, rfl⟩
  · have hd : decide ((k : Int) < (o.length : Int)) = false := decide_eq_false zO
    obtain rfl : k = o.length := by omega
    refine yq44 ?_; refine J6 ?_; refine T.freezeP hv zq1 ?_
    intro H2 _ hs2
    rw [hl]
    exact T.retF (Lv.fin (RV.tmp rfl rfl) (by unfold NSl; rw [codesK_len]; exact hs2))

end Go.Proofs.YtecogbhbkccblaaGreatDoor
namespace Go.Proofs.YtecogbhbkccblaaGreatDoor
open Go.RowKit


section
variable {P : Program} {X : Cx} {e : Env} {l : List (Nat × Obj)} {H : Hp} {D : List Deferred} {k : List It} {all : Array Oper} {rest : List Oper} {dst : Option Tmp} {ty : TypeId} {pos : String} {after : Array Edge} {gd : Option (Nat × Bool)}
theorem PV.makeFuncB {f : Go.Fn} {x : Operand} {v : Value} (hx : evE e x = some v) : PV P e l H ⟨dst, .makeFunc f #[x] #[], ty, pos, after, gd⟩ (.func f #[v] #[]) := PV.mk fun X D a w ha hw => by
  simp [execOp, Instr.makeFunc, ha.eval hx]
/-- a call of a bound function that writes blocks of the caller's -/
theorem T.callFBW {d : Nat} {f : FuncId} [hE : Ent P f] {x : Operand} {xs : List Operand} {ts : Array TypeId} {vs first : List Value} {l0 r : List (Nat × Obj)} {R : Value → Hp → List (Nat × Obj) → Prop} (hw : Wanted e all ⟨some d, .call ⟨.value x, xs.toArray, ts⟩, ty, pos, after, gd⟩) (hN : Nat.blt d X.N = true)
    (hx : evE e x = some (.func (.func f) first.toArray #[])) (hv : evL e xs = some vs) (hf : FnW P f (first ++ vs).toArray H l0 R) (hpk : Pick l l0 r)
    (h : ∀ v H' l', H.le H' → R v H' l' → T P X ((d, v) :: e) (l' ++ r) H' D (.ops all rest :: k)) :
    T P X e l H D (.ops all (⟨some d, .call ⟨.value x, xs.toArray, ts⟩, ty, pos, after, gd⟩ :: rest) :: k) :=
  T.enterW (d := d) hw rfl hN (fun a w ha => by
    have := evL_map ha xs vs hv
    have hE' := hE.h (first ++ vs).toArray w
    simp [execOp, resolve, ha.eval hx, Deferred.ofValue, invoke, List.map_toArray, this]
    simpa using hE') hpk hf h
end
structure EcG where
  i : Nat
  wl : List (Nat × Obj)
theorem hencode_fn (f : Nat → Nat) (n : Nat) (ns : List Nat) (av svv : Value) (H : Hp) (ha : NSl H .i64 av (tabF n f)) (hs : NSl H .i64 svv ns) (hc : CodeOk f n) (hl : ns.length ≤ 4096) (hm : ∀ s ∈ ns, s ∈ ordH n f) : Fn Tryz.prog 66 #[av, svv] H (fun u H' => ∃ v, u = .tuple #[v, .int .i64 ((symBits f (ordH n f) ns).length : Int), .int .i64 0] ∧ NSl H' .u8 v (packB (symBits f (ordH n f) ns))) := by
  have hv := hvalid_fn f n av H ha hc.small hc.le hc.room
  have hco := codesOf_fn f n av H ha hc
  obtain ⟨o, ho⟩ : ∃ o, o = ordH n f := ⟨_, rfl⟩
  have hmm : ∀ s, s ∈ o → s < n ∧ 0 < f s := fun s h => ordH_mem.1 (ho ▸ h)
  have hord := hc.ord
  rw [← ho] at hco hord hm ⊢
  obtain ⟨ad, cap, rfl⟩ := ha.len
  obtain ⟨asx, csx, rfl⟩ := hs.len
  have htl : (tabF n f).length = n := tabF_len n f
  have hd0 : decide ((4096 : Int) < (ns.length : Int)) = false := decide_eq_false zO
  refine Fn.of_T (vs := [.slice ad (tabF n f).length cap, .slice asx ns.length csx]) Tryz.func66 rfl rfl fun w => ?_; refine J11 ?_; refine T.callV Wanted.none rfl rfl (hv) ?_; refine J11 ?_; refine yq6 ?_; refine J5 ?_; (refine T.call Wanted.none rfl rfl hco ?_; intro v21 H1 hle1 hv21; obtain ⟨ad21, cap21, rfl⟩ := hv21.len); refine J4 ?_; (refine T.callW Wanted.none rfl rfl (newWriter_fn H1) Pick.nil ?_; rintro _ H22 wl _ ⟨hH22, wb, rfl, hwr⟩; have hH22 := hH22.symm; subst hH22); refine J5 ?_; refine sv (PV.makeFuncB rfl) ?_; refine J7 ?_
  refine J3 ?_
  have ha1 := ha.mono hle1
  have hs1 := hs.mono hle1
  refine T.loopK [(26, Value.int IntKind.i64 (↑ns.length : Int)), (25, Value.slice asx ns.length csx), (9, Value.func (Fn.func 121) #[Value.pointer (some { block := wb, off := 0 })] #[]), (8, Value.pointer (some { block := wb, off := 0 })), (7, Value.slice ad21 (codesK f o n o.length).length cap21), (0, Value.slice ad (tabF n f).length cap)] zq8 (γ := EcG) (fun g => g.i ≤ ns.length ∧ WrOk wb g.wl (symBits f o (ns.take g.i))) (fun g => [(27, .int .i64 (g.i : Int))]) (fun g => g.wl) (fun _ => H1) (fun g => ns.length - g.i) ⟨0, wl⟩ ⟨Nat.zero_le _, hwr⟩ zq8 zq23 rfl ?_
  rintro ⟨i, wl⟩ ⟨hi, hwr⟩
  dsimp only at hi hwr ⊢
  have hbl := symBits_len (f := f) (o := o) (ns.take i) (fun s _ => hc.le s)
  rw [List.length_take] at hbl
  by_cases h : i < ns.length
  · obtain ⟨s, hse⟩ : ∃ s, ns[i]? = some s := ⟨_, List.getElem?_eq_getElem h⟩
    have hso := hm s (List.mem_of_getElem? hse)
    obtain ⟨hsn, hs0⟩ := hmm s hso
    have hx : (tabF n f)[s]? = some (f s) := tabF_get f hsn
    have hcx : (codesK f o n o.length)[s]? = some (cdO f o (o.idxOf s)) := codesK_get hsn hso
    obtain ⟨b1, off1, rfl, hsub1⟩ := NSl.at hs1 hse
    obtain ⟨b2, off2, rfl, hsub2⟩ := NSl.at ha1 hx
    obtain ⟨b3, off3, rfl, hsub3⟩ := NSl.at hv21 hcx
    have hx15 := hc.le s
    have hidx : o.idxOf s < o.length := List.idxOf_lt_length_iff.2 hso
    have hcl : cdO f o (o.idxOf s) < 2 ^ f s := by
      have := cdO_lt hord hidx
      rw [List.getElem?_eq_getElem hidx, Option.getD_some, List.getElem_idxOf hidx] at this
      exact this
    have hp15 : 2 ^ f s ≤ 2 ^ 15 := Nat.pow_le_pow_right zD hx15
    have hcl2 : (codesK f o n o.length).length = n := codesK_len f o n o.length
    have hbits := wbits_fn wb wl _ (cdO f o (o.idxOf s)) (f s) H1 hwr zO hcl zO zO
    have hst : symBits f o (ns.take i) ++ bitsOf (cdO f o (o.idxOf s)) (f s) = symBits f o (ns.take (i + 1)) := by
      rw [List.take_add_one, hse]
      unfold symBits codeBits
      rw [List.flatMap_append]
      simp
    rw [hst] at hbits
    have hd : decide ((i : Int) < (ns.length : Int)) = true := decide_eq_true zO
    have hd1 : decide ((s : Int) < 0) = false := decide_eq_false zO
    have hd2 : decide (((tabF n f).length : Int) ≤ (s : Int)) = false := decide_eq_false zO
    have hd3 : decide ((f s : Int) = 0) = false := decide_eq_false zO
    refine yq94 ?_; refine J14 ?_; refine yq69 ?_; refine yq100 ?_; refine T.pv (PV.eql rfl rfl) (Wanted.guard rfl rfl zA) rfl rfl ?_; refine yq90 ?_; refine so ?_; refine yq6 ?_; refine T.skip ?_
    (repeat refine sq ?_)
    refine T.regionO [] zK ?_; refine yq3 ?_; refine yq13 ?_; refine TO.take 4 rfl zK zK zK (PV.loadSub0 rfl zA) Wanted.none rfl rfl ?_; refine yq36 ?_; refine TO.take 8 rfl zK zK zK (PV.loadSub0 rfl zA) Wanted.none rfl rfl ?_; refine TO.step 9 rfl zK zq4 zq19 ?_; (refine T.callFBW (first := [.pointer (some ⟨wb, 0, none⟩)]) Wanted.none rfl rfl rfl hbits zq1 ?_; rintro _ H55 wl2 _ ⟨rfl, hH55, hwr2⟩; have hH55 := hH55.symm; subst hH55); refine yq30 ?_; refine yq37 ?_; refine J5 ?_
    exact T.nextP ⟨i + 1, wl2⟩ ⟨by dsimp only; omega, hwr2⟩ zE zq8 zq23 rfl
  · have hd : decide ((i : Int) < (ns.length : Int)) = false := decide_eq_false zO
    obtain rfl : i = ns.length := by omega
    rw [List.take_length] at hwr hbl
    refine yq44 ?_; refine J4 ?_; (refine T.callW Wanted.none rfl rfl (wbytes_fn wb wl _ _ hwr zO) zq1 ?_; rintro v58 H58 _ _ ⟨hH58, lu, rfl, hu⟩; have hH58 := hH58.symm; subst hH58; obtain ⟨ad58, cap58, rfl⟩ := hu.val; rw [List.append_assoc lu wl]); refine sm ?_; refine T.callWV Wanted.none rfl rfl (wlen_fn wb wl _ _ hwr) zq1 ?_; refine J4 ?_; refine T.freezeP hu zq1 ?_
    intro H2 _ hs2
    exact T.retF (Lv.fin (RV.tmp3 rfl rfl rfl rfl) ⟨_, rfl, hs2⟩)

end Go.Proofs.YtecogbhbkccblaaGreatDoor
