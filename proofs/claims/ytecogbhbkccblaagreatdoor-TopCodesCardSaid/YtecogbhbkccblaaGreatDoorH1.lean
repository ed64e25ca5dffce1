/- huffman: leaves; the next list.
   huffman: the next list of package-merge; checking.
   huffman: the lengths of an optimal code. -/
import Derived.Test.YtecogbhbkccblaaGreatDoorH0
set_option maxRecDepth 4000
set_option maxHeartbeats 40000000
set_option linter.all false
namespace Go.Proofs.YtecogbhbkccblaaGreatDoor
open Go.RowKit


def OkH (x : Hi) : Prop := 0 ≤ x.w ∧ x.w ≤ 1125899906842624
theorem lessA_fn (x y : Hi) (H : Hp) (hx : OkH x) (hy : OkH y) : Fn Tryz.prog 176 #[hiV x, hiV y] H (fun u _ => u = .int .i64 (x.w - y.w)) := by
  obtain ⟨x1, x2⟩ := hx
  obtain ⟨y1, y2⟩ := hy
  refine Fn.of_T (vs := [hiV x, hiV y]) Tryz.func176 rfl rfl fun w => ?_; refine zs3 ?_; (refine T.box Wanted.none rfl rfl zq15 ?_; intro b2); (refine T.box Wanted.none rfl rfl zq15 ?_; intro b3); refine J11 ?_
  exact T.retF (Lv.fin (RV.tmp rfl rfl) rfl)
theorem lessB_fn (x y : Hi) (H : Hp) (hx : OkH x) (hy : OkH y) : Fn Tryz.prog 178 #[hiV x, hiV y] H (fun u _ => u = .int .i64 (x.w - y.w)) := by
  obtain ⟨x1, x2⟩ := hx
  obtain ⟨y1, y2⟩ := hy
  refine Fn.of_T (vs := [hiV x, hiV y]) Tryz.func178 rfl rfl fun w => ?_; refine zs3 ?_; (refine T.box Wanted.none rfl rfl zq15 ?_; intro b2); (refine T.box Wanted.none rfl rfl zq15 ?_; intro b3); refine J11 ?_
  exact T.retF (Lv.fin (RV.tmp rfl rfl) rfl)
abbrev HiV (v : Value) (lv : List (Nat × Obj)) (l : List Hi) : Prop := RowV 192 encHi 4 v lv l
abbrev HiL (H : Hp) (v : Value) (l : List Hi) : Prop := SlR H 4 v l.length (l.flatMap encHi)
theorem one_encHi (x : Hi) : ∀ u ∈ encHi x, u.oneCell' = true := by
  intro u hu
  simp only [encHi, List.mem_cons, List.not_mem_nil, or_false] at hu
  rcases hu with rfl | rfl | rfl | rfl <;> rfl
structure LeG where
  i : Nat
  v : Value
  lv : List (Nat × Obj)
theorem leavesOf_fn (c : List Nat) (av : Value) (H : Hp) (ha : NSl H .i64 av c) (hl : c.length ≤ 1000) (hb : ∀ x ∈ c, x ≤ 4096) : FnW Tryz.prog 117 #[av] H [] (fun u H' l' => H' = H ∧ HiV u l' (leavesH c)) := by
  obtain ⟨ad, cap, rfl⟩ := ha.len
  refine FnW.of_T (vs := [.slice ad c.length cap]) Tryz.func117 rfl rfl fun w => ?_; refine J16 ?_; refine T.loopK [(7, Value.int IntKind.i64 (↑c.length : Int)), (6, Value.slice ad c.length cap)] zq8 (γ := LeG) (fun g => g.i ≤ c.length ∧ HiV g.v g.lv (lvsK c g.i)) (fun g => [(8, .int .i64 (g.i : Int)), (3, g.v)]) (fun g => g.lv) (fun _ => H) (fun g => c.length - g.i) ⟨0, .slice none 0 0, []⟩ ⟨Nat.zero_le _, Vec.nil _ _⟩ zq8 zq23 rfl ?_
  rintro ⟨i, v, lv⟩ ⟨hi, hv⟩
  dsimp only at hi hv ⊢
  obtain ⟨av2, cv2, rfl⟩ := hv.val
  have hll := lvsK_len c i
  by_cases h : i < c.length
  · obtain ⟨x, hx⟩ : ∃ x, c[i]? = some x := ⟨_, List.getElem?_eq_getElem h⟩
    have hx1 := hb x (List.mem_of_getElem? hx)
    obtain ⟨b, off, rfl, hsub⟩ := NSl.at ha hx
    have hsc := lvsK_succ c i
    rw [hx, Option.getD_some] at hsc
    have hd : decide ((i : Int) < (c.length : Int)) = true := decide_eq_true zO
    by_cases h0 : 0 < x
    · have hd0 : decide ((0 : Int) < (x : Int)) = true := decide_eq_true zO
      rw [if_pos h0] at hsc
      refine yq98 ?_; refine J8 ?_; refine yq9 ?_; refine J4 ?_; refine yq39 ?_; (refine T.buildSlice Wanted.none rfl rfl zq11 zX zX ?_; intro b19); (refine T.appendP (lv := lv) Wanted.none rfl rfl rfl hv (Src.cells (m := 1) (ys := encHi ⟨(x : Int), (i : Int), 0, 0⟩) (.own zq2) rfl rfl) (one_encHi _) zO zq1 ?_; intro v20 lv20 hv20 _); refine J7 ?_
      exact T.nextP ⟨i + 1, v20, lv20⟩ ⟨by dsimp only; omega, by dsimp only; rw [hsc]; exact RowV.snoc hv20⟩ zE zq8 zq23 rfl
    · have hd0 : decide ((0 : Int) < (x : Int)) = false := decide_eq_false zO
      rw [if_neg h0, List.append_nil] at hsc
      refine yq98 ?_; refine J8 ?_; refine yq85 ?_
      exact T.nextP ⟨i + 1, .slice av2 (lvsK c i).length cv2, lv⟩ ⟨by dsimp only; omega, by dsimp only; rw [hsc]; exact hv⟩ zE zq8 zq23 rfl
  · have hd : decide ((i : Int) < (c.length : Int)) = false := decide_eq_false zO
    obtain rfl : i = c.length := by omega
    have hst := sortI_fn Hi.w OkH 176 [] H _ lv _ hv zO (fun x hx => by
      obtain ⟨j, _, _, rfl⟩ := lvsK_mem hx
      have := getD_lt (B := 4097) zD (fun v hv => by have := hb v hv; omega) j
      exact ⟨by dsimp only; omega, by dsimp only; omega⟩) (fun x y hx hy => lessA_fn x y H hx hy)
    refine yq44 ?_; refine J4 ?_; (refine T.callW Wanted.none rfl rfl hst zq1 ?_; rintro _ H2 lv2 _ ⟨rfl, hH2, hv2⟩; have hH2 := hH2.symm; subst hH2); refine J6 ?_
    exact T.retW (Lv.finW lv2 zq4 (RV.tmp rfl rfl) ⟨rfl, hv2⟩)
theorem cloneH_fn (l : List Hi) (av : Value) (H : Hp) (ha : HiL H av l) (hl : l.length ≤ 1000000) : FnW Tryz.prog 177 #[av] H [] (fun u H' l' => H' = H ∧ HiV u l' l) := by
  obtain ⟨ad, cap, rfl⟩ := ha.len
  refine FnW.of_T (vs := [.slice ad l.length cap]) Tryz.func177 rfl rfl fun w => ?_
  cases had : ad with
  | none =>
    subst had
    have hl0 : l = [] := by
      rcases ha.2 with ⟨_, h0⟩ | ⟨b, off, cap, cs, t, fz, h1, _⟩
      · exact List.eq_nil_of_length_eq_zero h0
      · cases h1
    subst hl0
    refine J8 ?_; refine sv (PV.slNilR rfl rfl) ?_; refine J6 ?_
    exact T.retW (Lv.finW [] (List.Sublist.refl _) (RV.tmp rfl rfl) ⟨rfl, Vec.nil _ _⟩)
  | some a =>
    subst had
    refine J8 ?_; refine sv (PV.slNilR rfl rfl) ?_; refine J5 ?_; (refine T.buildSlice Wanted.none rfl rfl zq11 zX zX ?_; intro b5); refine sm ?_; (refine T.appendP (lv := []) Wanted.none rfl rfl rfl (Vec.empty 192 4 _) ha.src (RowL.one (fun x _ => one_encHi x)) zO zq1 ?_; intro v7 lv7 hv7 _; rw [Nat.zero_add, List.nil_append] at hv7); refine J2 ?_
    exact T.retW (Lv.finW lv7 (List.sublist_append_left _ _) (RV.tmp rfl rfl) ⟨rfl, hv7⟩)

end Go.Proofs.YtecogbhbkccblaaGreatDoor
namespace Go.Proofs.YtecogbhbkccblaaGreatDoor
open Go.RowKit


structure NeG where
  j : Nat
  v : Value
  lv : List (Nat × Obj)
theorem nextH_fn (L B : List Hi) (va vb : Value) (H : Hp) (ha : HiL H va L) (hb : HiL H vb B) (hL : L.length ≤ 1000) (hB : B.length ≤ 2000) (oL : ∀ x ∈ L, OkH x) (oB : ∀ x ∈ B, 0 ≤ x.w ∧ x.w ≤ 281474976710656) : FnW Tryz.prog 118 #[va, vb] H [] (fun u H' l' => H' = H ∧ HiV u l' (stS Hi.w (L ++ pkgs B))) := by
  have hcl := cloneH_fn L va H ha zO
  obtain ⟨ad, cap, rfl⟩ := hb.len
  obtain ⟨q, hq⟩ : ∃ q, q = B.length / 2 := ⟨_, rfl⟩
  refine FnW.of_T (vs := [va, .slice ad B.length cap]) Tryz.func118 rfl rfl fun w => ?_; refine J7 ?_; (refine T.callW Wanted.none rfl rfl hcl Pick.nil ?_; rintro v8 H1 lv8 _ ⟨hH1, hv8⟩; have hH1 := hH1.symm; subst hH1); refine J8 ?_; refine T.loopK [(1, Value.slice ad B.length cap)] zq8 (γ := NeG) (fun g => g.j ≤ q ∧ HiV g.v g.lv (L ++ pkgK B g.j)) (fun g => [(6, .int .i64 ((2 * g.j : Nat) : Int)), (5, g.v)]) (fun g => g.lv) (fun _ => H) (fun g => q - g.j) ⟨0, v8, lv8⟩ ⟨Nat.zero_le _, by dsimp only; rw [show pkgK B 0 = [] from rfl, List.append_nil]; exact hv8⟩ zq8 zq23 rfl ?_
  rintro ⟨j, v, lv⟩ ⟨hj, hv⟩
  dsimp only at hj hv ⊢
  obtain ⟨av2, cv2, rfl⟩ := hv.val
  have hpl := pkgK_len B j
  have hLp : (L ++ pkgK B j).length = L.length + j := by rw [List.length_append, hpl]
  by_cases h : 2 * j + 1 < B.length
  · obtain ⟨x, hx⟩ : ∃ x, B[2 * j]? = some x := ⟨_, List.getElem?_eq_getElem zO⟩
    obtain ⟨y, hy⟩ : ∃ y, B[2 * j + 1]? = some y := ⟨_, List.getElem?_eq_getElem h⟩
    obtain ⟨x1, x2⟩ := oB x (List.mem_of_getElem? hx)
    obtain ⟨y1, y2⟩ := oB y (List.mem_of_getElem? hy)
    obtain ⟨b, off, rfl, hs1⟩ := RowL.at lenI hb hx
    have hs2 := RowL.atP lenI hb hy
    have hpk : pkg B j = ⟨x.w + y.w, -1, ((2 * j : Nat) : Int), ((2 * j + 1 : Nat) : Int)⟩ := by
      unfold pkg
      rw [hx, hy]; rfl
    have hd : decide (((2 * j : Nat) : Int) + 1 < (B.length : Int)) = true := decide_eq_true zO
    refine J9 ?_; refine yq9 ?_; refine J3 ?_
    (repeat refine sq ?_)
    refine T.regionO [] zK ?_; refine yq3 ?_; refine yq13 ?_; refine TO.take 4 rfl zK zK zK (PV.fieldAddr rfl) Wanted.none rfl rfl ?_; refine TO.take 5 rfl zK zK zK (PV.loadSub rfl zA rfl) Wanted.none rfl rfl ?_; refine TO.take 6 rfl zK zK zK (PV.move rfl) Wanted.none rfl rfl ?_; refine yq83 ?_; refine TO.take 8 rfl zK zK zK (PV.add rfl rfl zO) Wanted.none rfl rfl ?_; refine TO.take 9 rfl zK zK zK (PV.indexAddr rfl rfl zO) Wanted.none rfl rfl ?_; refine TO.take 10 rfl zK zK zK (PV.fieldAddr rfl) Wanted.none rfl rfl ?_; refine TO.take 11 rfl zK zK zK (PV.loadSub rfl zA rfl) Wanted.none rfl rfl ?_; refine TO.take 12 rfl zK zK zK (PV.add rfl rfl zO) Wanted.none rfl rfl ?_; refine TO.take 13 rfl zK zK zK (PV.move rfl) Wanted.none rfl rfl ?_; refine TO.take 14 rfl zK zK zK (PV.move rfl) Wanted.none rfl rfl ?_; refine TO.take 15 rfl zK zK zK (PV.add rfl rfl zO) Wanted.none rfl rfl ?_; refine TO.take 16 rfl zK zK zK (PV.build rfl zq12) Wanted.none rfl rfl ?_; refine TO.step 17 rfl zK zq4 zq19 ?_; (refine T.buildSlice Wanted.none rfl rfl zq11 zX zX ?_; intro b33); refine yq30 ?_; refine TO.step 18 rfl zK zq4 zq19 ?_; (refine T.appendP (lv := lv) Wanted.none rfl rfl rfl hv (Src.cells (m := 1) (ys := encHi ⟨x.w + y.w, -1, ((2 * j : Nat) : Int), ((2 * j + 1 : Nat) : Int)⟩) (.own zq2) rfl rfl) (one_encHi _) zO zq1 ?_; intro v34 lv34 hv34 _); refine yq30 ?_; refine TO.take 19 rfl zK zK zK (PV.assign rfl) Wanted.none rfl rfl ?_; refine yq37 ?_; refine J6 ?_
    exact T.nextP ⟨j + 1, v34, lv34⟩ ⟨by dsimp only; omega, by dsimp only; rw [pkgK_succ, hpk, ← List.append_assoc]; exact RowV.snoc hv34⟩ zE ⟨by dsimp only; rw [show 2 * (j + 1) = 2 * j + 2 by omega]; exact rfl, by repeat (first | exact trivial | refine And.intro rfl ?_)⟩ zq23 rfl
  · have hd : decide (((2 * j : Nat) : Int) + 1 < (B.length : Int)) = false := decide_eq_false zO
    obtain rfl : j = q := by omega
    have hpe : pkgK B j = pkgs B := by rw [hq, pkgK_all]
    rw [hpe] at hv hLp ⊢
    have hst := sortI_fn Hi.w OkH 178 [] H _ lv _ hv zO (fun x hx => by
      rcases List.mem_append.1 hx with h1 | h1
      · exact oL x h1
      · obtain ⟨i, hi, rfl⟩ := List.mem_map.1 h1
        rw [List.mem_range] at hi
        have hg : ∀ i, i < B.length → 0 ≤ (B[i]?.getD hi0).w ∧ (B[i]?.getD hi0).w ≤ 281474976710656 := fun i hi => by
          rw [List.getElem?_eq_getElem hi]
          exact oB _ (List.getElem_mem hi)
        have h2 := hg (2 * i) zO
        have h3 := hg (2 * i + 1) zO
        exact ⟨by show 0 ≤ (B[2 * i]?.getD hi0).w + (B[2 * i + 1]?.getD hi0).w; omega, by show (B[2 * i]?.getD hi0).w + (B[2 * i + 1]?.getD hi0).w ≤ _; omega⟩) (fun x y hx hy => lessB_fn x y H hx hy)
    refine J9 ?_; refine yq6 ?_; refine J4 ?_; (refine T.callW Wanted.none rfl rfl hst zq1 ?_; rintro _ H2 lv2 _ ⟨rfl, hH2, hv2⟩; have hH2 := hH2.symm; subst hH2); refine J6 ?_
    exact T.retW (Lv.finW lv2 zq4 (RV.tmp rfl rfl) ⟨rfl, hv2⟩)
theorem checkH_fn (c : List Nat) (av : Value) (H : Hp) (ha : NSl H .i64 av c) (hl : c.length ≤ 1000) (hb : ∀ x ∈ c, x ≤ 4096) : Fn Tryz.prog 116 #[av, .int .i64 15] H (fun u _ => u = .int .i64 0) := by
  obtain ⟨ad, cap, rfl⟩ := ha.len
  have h0 : decide ((1024 : Int) < (c.length : Int)) = false := decide_eq_false zO
  refine Fn.of_T (vs := [.slice ad c.length cap, .int .i64 15]) Tryz.func116 rfl rfl fun w => ?_; refine J24 ?_; refine yq6 ?_; refine J14 ?_; refine T.loopK [(20, Value.int IntKind.i64 (↑c.length : Int)), (19, Value.slice ad c.length cap), (1, Value.int IntKind.i64 15)] zq8 (γ := Nat × Nat) (fun g => g.1 ≤ c.length ∧ g.2 ≤ g.1) (fun g => [(21, .int .i64 (g.1 : Int)), (5, .int .i64 (g.2 : Int))]) (fun _ => []) (fun _ => H) (fun g => c.length - g.1) (0, 0) ⟨Nat.zero_le _, Nat.le_refl _⟩ ⟨rfl, rfl, trivial⟩ zq23 rfl ?_
  rintro ⟨i, n⟩ ⟨hi, hn⟩
  dsimp only at hi hn ⊢
  by_cases h : i < c.length
  · obtain ⟨x, hx⟩ : ∃ x, c[i]? = some x := ⟨_, List.getElem?_eq_getElem h⟩
    have hx1 := hb x (List.mem_of_getElem? hx)
    obtain ⟨b, off, rfl, hsub⟩ := NSl.at ha hx
    have hd : decide ((i : Int) < (c.length : Int)) = true := decide_eq_true zO
    have hd1 : decide ((x : Int) < 0) = false := decide_eq_false zO
    have hd2 : decide ((4096 : Int) < (x : Int)) = false := decide_eq_false zO
    by_cases h0 : 0 < x
    · have hd0 : decide ((0 : Int) < (x : Int)) = true := decide_eq_true zO
      refine yq94 ?_; refine J12 ?_; refine yq85 ?_; refine yq9 ?_; refine J10 ?_
      exact T.nextP (i + 1, n + 1) ⟨by dsimp only; omega, by dsimp only; omega⟩ zE zq8 zq23 rfl
    · have hd0 : decide ((0 : Int) < (x : Int)) = false := decide_eq_false zO
      refine yq94 ?_; refine J12 ?_; refine yq85 ?_; refine yq85 ?_
      exact T.nextP (i + 1, n) ⟨by dsimp only; omega, by dsimp only; omega⟩ zE zq8 zq23 rfl
  · have hd : decide ((i : Int) < (c.length : Int)) = false := decide_eq_false zO
    have hd1 : decide ((32768 : Int) < (n : Int)) = false := decide_eq_false zO
    have hsl : shlI .i64 1 15 = 32768 := by decide
    refine yq44 ?_; refine J6 ?_; refine yq105 ?_; refine J2 ?_; refine yq6 ?_; refine J5 ?_
    exact T.retF (Lv.fin (RV.tmp rfl rfl) rfl)

end Go.Proofs.YtecogbhbkccblaaGreatDoor
namespace Go.Proofs.YtecogbhbkccblaaGreatDoor
open Go.RowKit


structure LnG where
  k : Nat
  h : Hp
  v : Value
  lv : List (Nat × Obj)
  vs : List Value
structure LmG where
  k : Nat
  z : Int
  t : Nat
  f : Nat → Nat
  lv : List (Nat × Obj)
structure LiG where
  i : Nat
  lv : List (Nat × Obj)
theorem lengths_fn (c : List Nat) (av : Value) (H : Hp) (ha : NSl H .i64 av c) (hl : c.length ≤ 1000) (hb : ∀ x ∈ c, x ≤ 4096) : Fn Tryz.prog 65 #[av, .int .i64 15] H (fun u H' => ∃ v, u = .tuple #[v, .int .i64 0] ∧ NSl H' .i64 v (tabF c.length (lensH c))) := by
  have hck := checkH_fn c av H ha hl hb
  have hlv := leavesOf_fn c av H ha hl hb
  obtain ⟨ad, cap, rfl⟩ := ha.len
  obtain ⟨L, hL⟩ : ∃ L, L = leavesH c := ⟨_, rfl⟩
  have hLo : LfOk L := by rw [hL]; exact leavesH_ok c
  have hLl : L.length ≤ 1000 := by have := leavesH_len c; rw [hL]; omega
  have hLm : ∀ x ∈ L, ∃ i, i < c.length ∧ 0 < c[i]?.getD 0 ∧ x = ⟨((c[i]?.getD 0 : Nat) : Int), (i : Int), 0, 0⟩ := fun x hx => leavesH_mem (hL ▸ hx)
  have hLw : ∀ x ∈ L, x.w ≤ 4096 := fun x hx => by
    obtain ⟨i, _, _, rfl⟩ := hLm x hx
    have := getD_lt (B := 4097) zD (fun v hv => by have := hb v hv; omega) i
    dsimp only; omega
  have hLok : ∀ x ∈ L, OkH x := fun x hx => ⟨Int.le_of_lt (hLo.pos x hx), by have := hLw x hx; omega⟩
  rw [← hL] at hlv
  refine Fn.of_T (vs := [.slice ad c.length cap, .int .i64 15]) Tryz.func65 rfl rfl fun w => ?_; refine J10 ?_; refine T.callV Wanted.none rfl rfl (hck) ?_; refine J13 ?_; (refine T.makeSliceN (n := c.length) Wanted.none rfl rfl rfl zO ?_; intro v25 lv25 hv25; rw [nV_rep] at hv25; obtain ⟨ad25, cap25, rfl⟩ := hv25.val); refine J5 ?_; (refine T.callW Wanted.none rfl rfl hlv Pick.nil ?_; rintro v27 H1 lv27 _ ⟨hH1, hv27⟩; have hH1 := hH1.symm; subst hH1); refine J2 ?_; refine T.freezeP hv27 zq1 ?_
  intro H1 hle1 hs1
  obtain ⟨ad27, cap27, rfl⟩ := hs1.len
  have hlen0 : Vec 3 1 (.slice ad25 c.length cap25) lv25 c.length (nV .i64 (tabF c.length (fun _ => 0))) := by rw [tabF_zero]; exact hv25
  by_cases h2 : L.length < 2
  · have hd2 : decide ((L.length : Int) < 2) = true := decide_eq_true zO
    refine yq59 ?_; refine J8 ?_; refine T.loopK [(32, Value.int IntKind.i64 (↑L.length : Int)), (31, Value.slice ad27 L.length cap27), (8, Value.slice ad27 L.length cap27), (7, Value.slice ad25 c.length cap25), (1, Value.int IntKind.i64 15)] zq8 (γ := LiG) (fun g => g.i ≤ L.length ∧ Vec 3 1 (.slice ad25 c.length cap25) g.lv c.length (nV .i64 (tabF c.length (symS (L.take g.i))))) (fun g => [(33, .int .i64 (g.i : Int))]) (fun g => g.lv) (fun _ => H1) (fun g => L.length - g.i) ⟨0, lv25⟩ ⟨Nat.zero_le _, hlen0⟩ zq8 zq23 rfl ?_
    rintro ⟨i, lv⟩ ⟨hi, hv⟩
    dsimp only at hi hv ⊢
    by_cases h : i < L.length
    · obtain rfl : i = 0 := by omega
      obtain ⟨x, hx⟩ : ∃ x, L[0]? = some x := ⟨_, List.getElem?_eq_getElem h⟩
      obtain ⟨j, hj, hj0, hxe⟩ := hLm x (List.mem_of_getElem? hx)
      obtain ⟨b, off, rfl, hsub⟩ := RowL.at lenI hs1 hx
      have hxs : x.s = (j : Int) := by rw [hxe]
      obtain ⟨bq, cq, hve⟩ := hv.ptr zO
      injection hve with e1 e2 e3
      subst e1 e3
      have hd : decide (((0 : Nat) : Int) < (L.length : Int)) = true := decide_eq_true zO
      refine yq77 ?_; refine yq20 ?_; refine sy fun b10 => ?_; refine yq2 ?_; refine J6 ?_; (refine T.storeVecP (lv := lv) Wanted.none rfl rfl rfl hv (by rw [hxs, Nat.zero_add, Nat.mul_one, Int.toNat_natCast, nV_len, tabF_len]; exact hj) zq1 ?_; intro lv3 hv3); refine J6 ?_
      rw [hxs, Nat.zero_add, Nat.mul_one, Int.toNat_natCast] at hv3
      have hst : (nV .i64 (tabF c.length (symS (L.take 0)))).set j (.int .i64 1) = nV .i64 (tabF c.length (symS (L.take 1))) := by
        have := nV_set .i64 (tabF c.length (symS (L.take 0))) j 1
        rw [show ((1 : Nat) : Int) = 1 from rfl] at this
        rw [this, tabF_set]
        congr 1
        refine tabF_congr fun s hs => ?_
        unfold symS
        rw [List.take_add_one, hx, List.take_zero, List.nil_append, Option.toList_some, List.countP_singleton]
        by_cases h3 : s = j
        · subst h3; rw [if_pos rfl, if_pos (by rw [hxs]; simp)]
        · rw [if_neg h3, if_neg (by rw [hxs]; simp; omega)]; rfl
      rw [hst] at hv3
      exact T.nextP ⟨1, lv3⟩ ⟨by dsimp only; omega, hv3⟩ zE zq8 zq23 rfl
    · have hd : decide ((i : Int) < (L.length : Int)) = false := decide_eq_false zO
      rw [List.take_of_length_le zO, tabF_congr (h := lensH c) fun s hs => by rw [hL]; exact (one_lens (hL ▸ h2) hs).symm] at hv
      refine yq44 ?_; refine J7 ?_; refine T.freezeP hv zq1 ?_
      intro H2 _ hs2
      exact T.retF (Lv.fin (RV.tmp2 rfl rfl rfl) ⟨_, rfl, by unfold NSl; rw [tabF_len]; exact hs2⟩)
  · have hd2 : decide ((L.length : Int) < 2) = false := decide_eq_false zO
    refine yq66 ?_; refine J4 ?_; (refine T.buildSlice Wanted.none rfl rfl zq11 zX zX ?_; intro b44); refine J10 ?_
    have hrow0 : Vec 189 1 (.slice (some ⟨b44, 0, none⟩) 1 1) [(b44, .cells [.slice ad27 L.length cap27].toArray 189 (0, 0))] 1 [.slice ad27 L.length cap27] := ⟨rfl, .inr ⟨b44, 1, _, rfl, rfl, Nat.le_refl _, by decide, rfl, rfl⟩⟩
    have hlo : ∀ k, k ≤ 14 → ∀ x ∈ lstH L k, 0 ≤ x.w ∧ x.w ≤ 281474976710656 := fun k hk x hx => by
      have h1 := lstH_pos hLo k x hx
      have h3 := lstH_le hLo hLw zD k x hx
      have h4 : (2 : Int) ^ k ≤ 2 ^ 14 := by
        have := Nat.pow_le_pow_right (show 0 < 2 by decide) hk
        exact_mod_cast this
      exact ⟨Int.le_of_lt h1, by omega⟩
    refine T.loopK [(46, Value.int IntKind.i64 (15 - 1)), (8, Value.slice ad27 L.length cap27), (7, Value.slice ad25 c.length cap25)] zq8 (γ := LnG) (fun g => g.k ≤ 14 ∧ H1.le g.h ∧ (∀ i, i ≤ g.k → ∃ u, g.vs[i]? = some u ∧ HiL g.h u (lstH L i)) ∧ Vec 189 1 g.v g.lv (g.k + 1) g.vs) (fun g => [(47, .int .i64 (g.k : Int)), (11, g.v)]) (fun g => g.lv ++ lv25) (fun g => g.h) (fun g => 14 - g.k) ⟨0, H1, .slice (some ⟨b44, 0, none⟩) 1 1, [(b44, .cells [.slice ad27 L.length cap27].toArray 189 (0, 0))], [.slice ad27 L.length cap27]⟩ ⟨Nat.zero_le _, Hp.le.refl _, fun i hi => by dsimp only at hi ⊢; obtain rfl : i = 0 := zO; exact ⟨_, rfl, hs1⟩, hrow0⟩ zq8 zq23 rfl ?_
    rintro ⟨k, h, v, lv, vs⟩ ⟨hk, hle, hall, hv⟩
    dsimp only at hk hle hall hv ⊢
    obtain ⟨bl, cl, rfl⟩ := hv.ptr zO
    have hvl : vs.length = k + 1 := by have := hv.1; omega
    by_cases hk14 : k < 14
    · have hd : decide ((k : Int) < 15 - 1) = true := decide_eq_true zO
      obtain ⟨u, hu1, hu2⟩ := hall k (Nat.le_refl _)
      obtain ⟨au, cu, rfl⟩ := hu2.len
      have hll := lstH_len2 L k
      have hld : vs[0 + (((k + 1 : Nat) : Int) - 1).toNat * 1]? = some (.slice au (lstH L k).length cu) := by
        rw [show 0 + (((k + 1 : Nat) : Int) - 1).toNat * 1 = k by omega]; exact hu1
      have hnx := nextH_fn L (lstH L k) _ _ h (hs1.mono hle) hu2 hLl zO hLok (hlo k hk)
      refine yq31 ?_; refine J11 ?_; refine yq92 ?_; (refine T.callW Wanted.none rfl rfl hnx Pick.nil ?_; rintro v57 H2 lv57 _ ⟨hH2, hv57⟩; have hH2 := hH2.symm; subst hH2; refine T.freezeP hv57 zq1 ?_; intro h2 hle2 hs2; obtain ⟨ad57, cap57, rfl⟩ := hs2.len); (refine T.buildSlice Wanted.none rfl rfl zq11 zX zX ?_; intro b58); (refine T.appendP (lv := lv) Wanted.none rfl rfl rfl hv (Src.cells (m := 1) (ys := [.slice ad57 (stS Hi.w (L ++ pkgs (lstH L k))).length cap57]) (.own zq2) rfl rfl) (by intro u hu; rw [List.mem_singleton] at hu; subst hu; rfl) zO zq1 ?_; intro v59 lv59 hv59 _); refine J7 ?_
      refine T.nextP ⟨k + 1, h2, v59, lv59, vs ++ [.slice ad57 (stS Hi.w (L ++ pkgs (lstH L k))).length cap57]⟩ ⟨by dsimp only; omega, hle.trans hle2, fun i hi => ?_, hv59⟩ zE zq8 zq23 rfl
      dsimp only at hi ⊢
      by_cases hik : i ≤ k
      · obtain ⟨u, q1, q2⟩ := hall i hik
        exact ⟨u, by rw [List.getElem?_append_left zO]; exact q1, q2.mono hle2⟩
      · obtain rfl : i = k + 1 := by omega
        exact ⟨_, by rw [List.getElem?_append_right zO, hvl, Nat.sub_self]; rfl, hs2⟩
    · have hd : decide ((k : Int) < 15 - 1) = false := decide_eq_false zO
      obtain rfl : k = 14 := by omega
      refine T.freezeP hv zq1 ?_
      intro h3 hle3 hsv
      have hl14 := lstH_long L 14
      have hdiv : L.length / 2 ^ 14 = 0 := Nat.div_eq_of_lt zO
      refine J15 ?_
      rw [show (2 : Int) * (L.length : Int) - 2 = ((2 * L.length - 2 : Nat) : Int) by omega]
      refine J9 ?_; refine T.loopK [(11, Value.slice (some { block := bl, off := 0 }) (14 + 1) cl), (7, Value.slice ad25 c.length cap25)] zq8 (γ := LmG) (fun g => g.k ≤ 15 ∧ g.z = (g.k : Int) - 1 ∧ (∀ s, g.f s + restL L g.t s g.k = lenS L 14 s) ∧ (∀ k', g.k = k' + 1 → g.t ≤ (lstH L k').length) ∧ Vec 3 1 (.slice ad25 c.length cap25) g.lv c.length (nV .i64 (tabF c.length g.f))) (fun g => [(13, .int .i64 g.z), (12, .int .i64 (g.t : Int))]) (fun g => g.lv) (fun _ => h3) (fun g => g.k) ⟨15, ((14 + 1 : Nat) : Int) - 1, 2 * L.length - 2, fun _ => 0, lv25⟩ ⟨Nat.le_refl _, rfl, fun s => by dsimp only; rw [Nat.zero_add]; rfl, fun k' hk' => by dsimp only at hk' ⊢; obtain rfl : k' = 14 := zO; omega, hlen0⟩ zq8 zq23 rfl ?_
      rintro ⟨k, z, t, f, lv⟩ ⟨hk, hz, hf, ht, hv⟩
      dsimp only at hk hz hf ht hv ⊢
      have hf15 : ∀ s, f s ≤ 15 := fun s => by
        have h5 := hf s
        have h6 := lenS_le15 (c := c) s
        rw [← hL] at h6
        omega
      cases k with
      | zero =>
        have hd : decide ((0 : Int) ≤ z) = false := decide_eq_false zO
        refine J6 ?_; refine yq6 ?_; refine J7 ?_; refine T.freezeP hv zq1 ?_
        intro H2 _ hs2
        refine T.retF (Lv.fin (RV.tmp2 rfl rfl rfl) ⟨_, rfl, ?_⟩)
        unfold NSl
        rw [tabF_len, tabF_congr (h := f) fun s hs => ?_]
        · exact hs2
        · have h5 := hf s
          unfold lensH
          rw [if_neg (by rw [← hL]; exact h2), ← hL, ← h5]; rfl
      | succ k =>
        obtain rfl : z = (k : Int) := by omega
        have ht' := ht k rfl
        obtain ⟨u, hu1, hu2⟩ := hall k zO
        obtain ⟨au, cu, rfl⟩ := hu2.len
        have hu3 : HiL h3 (.slice au (lstH L k).length cu) (lstH L k) := hu2.mono hle3
        have hcu := SlR.cap hu3
        have hll := lstH_len2 L k
        obtain ⟨T0, hT0⟩ : ∃ T0, T0 = (lstH L k).take t := ⟨_, rfl⟩
        have hT0l : T0.length = t := by rw [hT0, List.length_take]; omega
        have hpre : HiL h3 (.slice au t cu) T0 := by
          have := SlR.pre hu3 (hi := t) ht'
          rw [takeRow lenI _ _ ht', ← hT0] at this
          unfold HiL
          rw [hT0l]; exact this
        obtain ⟨bv, ov, hve, hsubv⟩ : ∃ bv ov, (⟨bl, 0, none⟩ : Addr) = ⟨bv, ov, none⟩ ∧ SubC h3 bv (ov + k * 1) [.slice au (lstH L k).length cu] := by
          obtain ⟨b, off, cap', hve, hsub⟩ := hsv.elem (i := k) zO (vs := [.slice au (lstH L k).length cu]) (by
            have h9 := List.getElem?_eq_some_iff.1 hu1
            rw [Nat.mul_one, List.drop_eq_getElem_cons h9.1, h9.2]; rfl)
          injection hve with e1 e2 e3
          injection e1 with e1
          exact ⟨b, off, e1, hsub⟩
        injection hve with e1 e2
        subst e1 e2
        have hd : decide ((0 : Int) ≤ (k : Int)) = true := decide_eq_true zO
        refine J20 ?_; refine yq10 ?_; refine sm ?_; refine sv (PV.sliceH rfl rfl zO) ?_; refine J4 ?_; refine T.loopK [(78, Value.int IntKind.i64 (↑(↑t : Int).toNat : Int)), (77, Value.slice au (↑t : Int).toNat cu), (13, Value.int IntKind.i64 (↑k : Int)), (12, Value.int IntKind.i64 (↑t : Int)), (11, Value.slice (some { block := bl, off := 0 }) (14 + 1) cl), (7, Value.slice ad25 c.length cap25)] zq8 (γ := LiG) (fun g => g.i ≤ t ∧ Vec 3 1 (.slice ad25 c.length cap25) g.lv c.length (nV .i64 (tabF c.length (fun s => f s + symS (T0.take g.i) s)))) (fun g => [(79, .int .i64 (g.i : Int)), (14, .int .i64 (pkN (T0.take g.i) : Int))]) (fun g => g.lv) (fun _ => h3) (fun g => t - g.i) ⟨0, lv⟩ ⟨Nat.zero_le _, hv⟩ zq8 zq23 rfl ?_
        rintro ⟨i, lv⟩ ⟨hi, hv⟩
        dsimp only at hi hv ⊢
        have hpk : pkN (T0.take i) ≤ 2000 := by
          have h7 : pkN (T0.take i) ≤ (T0.take i).length := List.countP_le_length
          rw [List.length_take] at h7
          omega
        by_cases h : i < t
        · obtain ⟨x, hx⟩ : ∃ x, T0[i]? = some x := ⟨_, List.getElem?_eq_getElem zO⟩
          have hxg := (List.getElem?_eq_some_iff.1 hx).2
          obtain ⟨b, off, rfl, hsub⟩ := RowL.at lenI hpre hx
          have hxm : x ∈ lstH L k := List.mem_of_mem_take (hT0 ▸ List.mem_of_getElem? hx)
          have hd3 : decide ((i : Int) < (t : Int)) = true := decide_eq_true zO
          have hst := fun s => len_step (T := T0) (i := i) zO s
          have hpk2 := pk_step (T := T0) (i := i) zO
          rw [hxg] at hpk2
          by_cases hx0 : 0 ≤ x.s
          · have hd0 : decide ((0 : Int) ≤ x.s) = true := decide_eq_true hx0
            obtain ⟨j, hj, hj0, hxe⟩ := item_leaf (hL ▸ hxm) hx0
            have hxs : x.s = (j : Int) := by rw [hxe]
            rw [if_pos (show x.leaf = true from decide_eq_true hx0), Nat.add_zero] at hpk2
            obtain ⟨bq, cq, hve⟩ := hv.ptr zO
            injection hve with e1 e2 e3
            subst e1 e3
            have hfj : f j + symS (T0.take i) j ≤ 15 := by
              have h5 := hf j
              have h6 := lenS_le15 (c := c) j
              rw [← hL] at h6
              rw [restL_step, ← hT0] at h5
              have h7 := symS_le (R := []) (s := j) (i := i) (T := T0)
              omega
            have hld : (nV .i64 (tabF c.length (fun s => f s + symS (T0.take i) s)))[0 + x.s.toNat * 1]? = some (.int .i64 ((f j + symS (T0.take i) j : Nat) : Int)) := by
              rw [hxs, Nat.zero_add, Nat.mul_one, Int.toNat_natCast]
              exact nV_get (tabF_get _ hj)
            refine yq77 ?_; refine yq20 ?_; refine sy fun b16 => ?_; refine yq2 ?_; refine yq59 ?_; refine J5 ?_; refine yq92 ?_; refine J2 ?_; (refine T.storeVecP (lv := lv) Wanted.none rfl rfl rfl hv (by rw [hxs, Nat.zero_add, Nat.mul_one, Int.toNat_natCast, nV_len, tabF_len]; exact hj) zq1 ?_; intro lv3 hv3); refine J6 ?_
            rw [hxs, Nat.zero_add, Nat.mul_one, Int.toNat_natCast, show ((f j + symS (T0.take i) j : Nat) : Int) + 1 = ((f j + symS (T0.take i) j + 1 : Nat) : Int) by omega, nV_set, tabF_inc (fun s => f s + symS (T0.take i) s), tabF_congr (h := fun s => f s + symS (T0.take (i + 1)) s) fun s hs => by
              have h8 := hst s
              rw [hxg, hxs] at h8
              unfold symS
              rw [h8, Nat.add_assoc]] at hv3
            exact T.nextP ⟨i + 1, lv3⟩ ⟨by dsimp only; omega, hv3⟩ zE ⟨rfl, by dsimp only; rw [hpk2]; exact rfl, by repeat (first | exact trivial | refine And.intro rfl ?_)⟩ zq23 rfl
          · have hd0 : decide ((0 : Int) ≤ x.s) = false := decide_eq_false hx0
            rw [if_neg (show ¬ x.leaf = true by unfold Hi.leaf; rw [hd0]; simp)] at hpk2
            refine yq77 ?_; refine yq20 ?_; refine sy fun b16 => ?_; refine yq2 ?_; refine yq66 ?_; refine J10 ?_
            have hcg : tabF c.length (fun s => f s + symS (T0.take i) s) = tabF c.length (fun s => f s + symS (T0.take (i + 1)) s) := tabF_congr fun s hs => by
              have h8 := hst s
              rw [hxg, if_neg zO, Nat.add_zero] at h8
              have h9 : symS (T0.take (i + 1)) s = symS (T0.take i) s := h8
              show f s + symS (T0.take i) s = f s + symS (T0.take (i + 1)) s
              rw [h9]
            rw [hcg] at hv
            exact T.nextP ⟨i + 1, lv⟩ ⟨by dsimp only; omega, hv⟩ zE ⟨rfl, by dsimp only; rw [hpk2]; exact rfl, by repeat (first | exact trivial | refine And.intro rfl ?_)⟩ zq23 rfl
        · have hd3 : decide ((i : Int) < (t : Int)) = false := decide_eq_false zO
          obtain rfl : i = t := by omega
          rw [List.take_of_length_le zO] at hv hpk ⊢
          refine yq44 ?_; refine J12 ?_
          refine T.nextP ⟨k, (k : Int) - 1, 2 * pkN T0, fun s => f s + symS T0 s, lv⟩ ⟨by dsimp only; omega, rfl, fun s => ?_, fun k' hk' => ?_, hv⟩ zE zq8 zq23 rfl
          · have h5 := hf s
            rw [restL_step, ← hT0] at h5
            dsimp only
            omega
          · dsimp only at hk' ⊢
            subst hk'
            rw [hT0]
            exact pkN_take hLo k' i

end Go.Proofs.YtecogbhbkccblaaGreatDoor
