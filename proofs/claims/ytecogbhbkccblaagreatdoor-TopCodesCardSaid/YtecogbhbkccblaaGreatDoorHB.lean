/- lists: Check, union.
   lists: Merge. -/
import Derived.Test.YtecogbhbkccblaaGreatDoorHA
set_option maxRecDepth 4000
set_option maxHeartbeats 40000000
set_option linter.all false
namespace Go.Proofs.YtecogbhbkccblaaGreatDoor
open Go.RowKit


theorem lcheck_fn (ps : List Nat) (av : Value) (H : Hp) (ha : NSl H .i64 av ps) (hp : PsOk ps) : Fn Tryz.prog 81 #[av] H (fun u _ => u = .int .i64 0) := by
  have hlen := hp.len
  obtain ⟨ad, cap, rfl⟩ := ha.len
  have hd0 : decide ((4096 : Int) < (ps.length : Int)) = false := decide_eq_false zO
  refine Fn.of_T (vs := [.slice ad ps.length cap]) Tryz.func81 rfl rfl fun w => ?_; refine J11 ?_; refine yq6 ?_; refine J9 ?_; refine T.loopK [(9, Value.int IntKind.i64 (↑ps.length : Int)), (8, Value.slice ad ps.length cap), (0, Value.slice ad ps.length cap)] zq8 (γ := Nat) (fun i => i ≤ ps.length) (fun i => [(10, .int .i64 (i : Int))]) (fun _ => []) (fun _ => H) (fun i => ps.length - i) 0 (Nat.zero_le _) zq8 zq23 rfl ?_
  intro i hi
  by_cases h : i < ps.length
  · obtain ⟨p, hpe⟩ : ∃ p, p = ps[i] := ⟨_, rfl⟩
    have hx : ps[i]? = some p := by rw [hpe]; exact List.getElem?_eq_getElem h
    have hp1 := hp.lt p (List.mem_of_getElem? hx)
    obtain ⟨b, off, rfl, hsub⟩ := NSl.at ha hx
    have hd : decide ((i : Int) < (ps.length : Int)) = true := decide_eq_true zO
    have hd1 : decide ((p : Int) < 0) = false := decide_eq_false zO
    have hd2 : decide ((2147483647 : Int) < (p : Int)) = false := decide_eq_false zO
    by_cases h0 : 0 < i
    · have hd3 : decide ((0 : Int) < (i : Int)) = true := decide_eq_true zO
      obtain ⟨y, hye⟩ : ∃ y, y = ps[i - 1]'zO := ⟨_, rfl⟩
      have hgy : ps[i - 1]? = some y := by rw [hye]; exact List.getElem?_eq_getElem _
      obtain ⟨b', off', he, hsub0⟩ := NSl.at ha hgy
      injection he with he
      injection he with e1 e2
      subst e1 e2
      have hsub0 : SubC H b (off + ((i : Int) - 1).toNat * 1) [.int .i64 (y : Int)] := by
        rw [show ((i : Int) - 1).toNat = i - 1 by omega]
        exact hsub0
      have hyp : y < p := by rw [hye, hpe]; exact List.pairwise_iff_getElem.1 hp.up _ _ _ _ zO
      have hd4 : decide ((p : Int) ≤ (y : Int)) = false := decide_eq_false zO
      refine yq98 ?_; refine J14 ?_; refine yq6 ?_; refine J5 ?_; refine yq69 ?_; refine yq0 ?_; refine T.pv (PV.sub rfl rfl zO) (Wanted.guard rfl rfl zA) rfl rfl ?_; refine yq100 ?_; refine yq101 ?_; refine J2 ?_
      refine yq6 ?_; refine J7 ?_
      exact T.nextP (i + 1) zO zO zq8 zq23 rfl
    · have hd3 : decide ((0 : Int) < (i : Int)) = false := decide_eq_false zO
      refine yq98 ?_; refine J14 ?_; refine yq6 ?_; refine J5 ?_; refine yq5 ?_; refine yq5 ?_; refine yq5 ?_; refine yq48 ?_; refine J2 ?_
      refine J8 ?_
      exact T.nextP (i + 1) zO zO zq8 zq23 rfl
  · have hd : decide ((i : Int) < (ps.length : Int)) = false := decide_eq_false zO
    refine yq44 ?_; refine J5 ?_
    exact T.retF (Lv.fin (RV.tmp rfl rfl) rfl)
structure UniG where
  va : Value
  vb : Value
  vo : Value
  lo : List (Nat × Obj)
  la : List Nat
  lb : List Nat
  o : List Nat
theorem lunion_fn (a b : List Nat) (av bv : Value) (H : Hp) (ha : NSl H .i64 av a) (hb : NSl H .i64 bv b) (hla : a.length ≤ 10000) (hlb : b.length ≤ 10000) (hax : ∀ x ∈ a, x < 65536) (hbx : ∀ x ∈ b, x < 65536) : Fn Tryz.prog 49 #[av, bv] H (fun u H' => NSl H' .i64 u (uni a b)) := by
  refine Fn.of_T (vs := [av, bv]) Tryz.func49 rfl rfl fun w => ?_; refine J10 ?_; refine T.loopK [] zq8 (γ := UniG) (fun g => NSl H .i64 g.va g.la ∧ NSl H .i64 g.vb g.lb ∧ NRow 3 .i64 g.vo g.lo g.o ∧ g.o ++ uni g.la g.lb = uni a b ∧ g.la.length ≤ 10000 ∧ g.lb.length ≤ 10000 ∧ g.o.length + g.la.length + g.lb.length ≤ 20000 ∧ (∀ x ∈ g.la, x < 65536) ∧ (∀ x ∈ g.lb, x < 65536)) (fun g => [(0, g.va), (1, g.vb), (5, g.vo)]) (fun g => g.lo) (fun _ => H) (fun g => g.la.length + g.lb.length) ⟨av, bv, .slice none 0 0, [], a, b, []⟩ ⟨ha, hb, NRow.nil _ _, rfl, hla, hlb, by dsimp only [List.length_nil]; omega, hax, hbx⟩ zq8 zq23 rfl ?_
  rintro ⟨va, vb, vo, lo, la, lb, o⟩ ⟨ha, hb, ho, huo, hla, hlb, hol, hax, hbx⟩
  dsimp only at ha hb ho huo hla hlb hol hax hbx ⊢
  obtain ⟨ada, capa, rfl⟩ := ha.len
  obtain ⟨adb, capb, rfl⟩ := hb.len
  obtain ⟨ado, capo, rfl⟩ := ho.val
  have hca := SlR.cap ha
  have hcb := SlR.cap hb
  cases la with
  | nil =>
    have hd : decide ((0 : Int) < (([] : List Nat).length : Int)) = false := rfl
    rw [uni_nil'] at huo
    refine J18 ?_; (refine T.appendP (lv := lo) Wanted.none rfl rfl rfl ho ha.src (nV_one _ _) (by simp only [List.length_nil]; omega) zq1 ?_; intro v58 lv58 hv58 _; have hv58 := NRow.app hv58; rw [List.append_nil] at hv58 ⊢; obtain ⟨ad58, cap58, rfl⟩ := hv58.val); refine sm ?_; (refine T.appendP (lv := lv58) Wanted.none rfl rfl rfl hv58 hb.src (nV_one _ _) zO zq1 ?_; intro v60 lv60 hv60 _; have hv60 := NRow.app hv60; obtain ⟨ad60, cap60, rfl⟩ := hv60.val); refine J2 ?_
    rw [huo] at hv60
    refine T.freezeP hv60 zq1 ?_
    intro H2 hle2 hs2
    exact T.retF (Lv.fin (RV.tmp rfl rfl) (huo ▸ hs2))
  | cons x la =>
    have hd : decide ((0 : Int) < ((x :: la).length : Int)) = true := decide_eq_true (by rw [List.length_cons]; omega)
    have hlx : (x :: la).length = la.length + 1 := List.length_cons
    rw [List.length_cons] at hla hol hca
    have hx1 := hax x List.mem_cons_self
    have hsx := NSl.suf ha (lo := 1) (by rw [List.length_cons]; omega)
    rw [List.drop_one, List.tail_cons] at hsx
    have hax' : ∀ x ∈ la, x < 65536 := fun z hz => hax z (List.mem_cons_of_mem _ hz)
    cases lb with
    | nil =>
      have hd2 : decide ((0 : Int) < (([] : List Nat).length : Int)) = false := rfl
      rw [uni_nil] at huo
      refine J7 ?_; refine yq0 ?_; refine T.pv (PV.lenSl rfl) (Wanted.guard rfl rfl zA) rfl rfl ?_; refine yq78 ?_; refine J7 ?_; (refine T.appendP (lv := lo) Wanted.none rfl rfl rfl ho ha.src (nV_one _ _) (by rw [List.length_cons]; omega) zq1 ?_; intro v58 lv58 hv58 _; have hv58 := NRow.app hv58; obtain ⟨ad58, cap58, rfl⟩ := hv58.val); refine sm ?_; (refine T.appendP (lv := lv58) Wanted.none rfl rfl rfl hv58 hb.src (nV_one _ _) (by rw [List.length_append, List.length_cons, List.length_nil]; omega) zq1 ?_; intro v60 lv60 hv60 _; have hv60 := NRow.app hv60; rw [List.append_nil] at hv60 ⊢; obtain ⟨ad60, cap60, rfl⟩ := hv60.val); refine J2 ?_
      rw [huo] at hv60
      refine T.freezeP hv60 zq1 ?_
      intro H2 hle2 hs2
      exact T.retF (Lv.fin (RV.tmp rfl rfl) (huo ▸ hs2))
    | cons y lb =>
      have hd2 : decide ((0 : Int) < ((y :: lb).length : Int)) = true := decide_eq_true (by rw [List.length_cons]; omega)
      have hly : (y :: lb).length = lb.length + 1 := List.length_cons
      rw [List.length_cons] at hlb hol hcb
      have hy1 := hbx y List.mem_cons_self
      have hsy := NSl.suf hb (lo := 1) (by rw [List.length_cons]; omega)
      rw [List.drop_one, List.tail_cons] at hsy
      have hbx' : ∀ x ∈ lb, x < 65536 := fun z hz => hbx z (List.mem_cons_of_mem _ hz)
      obtain ⟨b1, off1, rfl, hsub1⟩ := NSl.at ha (i := 0) (x := x) rfl
      obtain ⟨b2, off2, rfl, hsub2⟩ := NSl.at hb (i := 0) (x := y) rfl
      rw [uni_cons] at huo
      rcases Nat.lt_trichotomy x y with hxy | hxy | hxy
      · have hd3 : decide ((x : Int) < (y : Int)) = true := decide_eq_true zO
        rw [if_pos hxy] at huo
        refine J7 ?_; refine yq0 ?_; refine T.pv (PV.lenSl rfl) (Wanted.guard rfl rfl zA) rfl rfl ?_; refine yq78 ?_; refine so ?_; refine yq9 ?_; refine J3 ?_
        (repeat refine sq ?_)
        refine T.regionO [] zK ?_; refine yq49 ?_; refine yq40 ?_; refine yq22 ?_; refine yq41 ?_; refine TO.take 6 rfl zK zK zK (PV.lss rfl rfl) Wanted.none rfl rfl ?_; refine yq88 ?_; refine yq9 ?_
        (repeat refine sq ?_)
        refine T.regionO [] zK ?_; refine yq3 ?_; refine yq62 ?_; refine yq102 ?_; refine TO.step 4 rfl zK zq4 zq19 ?_; (refine T.buildSlice Wanted.none rfl rfl zq11 zX zX ?_; intro b36); refine yq30 ?_; refine TO.step 5 rfl zK zq4 zq19 ?_; (refine T.appendP (lv := lo) Wanted.none rfl rfl rfl ho (Src.cells (m := 1) (ys := nV .i64 [x]) (.own zq2) rfl rfl) (nV_one _ _) zO zq1 ?_; intro v37 lv37 hv37 _; have hv37 := NRow.app hv37; obtain ⟨ad37, cap37, rfl⟩ := hv37.val); refine yq30 ?_; refine TO.take 8 rfl zK zK zK (PV.assign rfl) Wanted.none rfl rfl ?_; refine TO.take 9 rfl zK zK zK (PV.assign rfl) Wanted.none rfl rfl ?_; refine yq37 ?_; refine J2 ?_
        exact T.nextP ⟨slV 1 (some ⟨b1, off1, none⟩) 1 (x :: la).length capa, .slice (some ⟨b2, off2, none⟩) (y :: lb).length capb, .slice ad37 (o ++ [x]).length cap37, lv37, la, y :: lb, o ++ [x]⟩ ⟨hsx, hb, hv37, by dsimp only; rw [List.append_assoc]; exact huo, by dsimp only; omega, by dsimp only; rw [List.length_cons]; omega, by dsimp only; simp only [List.length_append, List.length_cons, List.length_nil]; omega, hax', hbx⟩ (by dsimp only; simp only [List.length_cons]; omega) zq8 zq23 rfl
      · subst hxy
        have hd3 : decide ((x : Int) < (x : Int)) = false := decide_eq_false zO
        rw [if_neg zO, if_neg zO] at huo
        refine J7 ?_; refine yq0 ?_; refine T.pv (PV.lenSl rfl) (Wanted.guard rfl rfl zA) rfl rfl ?_; refine yq78 ?_; refine so ?_; refine yq9 ?_; refine J3 ?_
        (repeat refine sq ?_)
        refine T.regionO [] zK ?_; refine yq49 ?_; refine yq40 ?_; refine yq22 ?_; refine yq41 ?_; refine TO.take 6 rfl zK zK zK (PV.lss rfl rfl) Wanted.none rfl rfl ?_; refine yq88 ?_; refine yq6 ?_
        (repeat refine sq ?_)
        refine T.regionO [] zK ?_; refine yq49 ?_; refine yq40 ?_; refine yq22 ?_; refine yq41 ?_; refine TO.take 6 rfl zK zK zK (PV.gtr rfl rfl) Wanted.none rfl rfl ?_; refine yq88 ?_; refine yq6 ?_
        (repeat refine sq ?_)
        refine T.regionO [] zK ?_; refine yq3 ?_; refine yq62 ?_; refine yq102 ?_; refine TO.take 8 rfl zK zK zK (PV.move rfl) Wanted.none rfl rfl ?_; refine TO.take 9 rfl zK zK zK (PV.sliceL rfl rfl zO) Wanted.none rfl rfl ?_; refine TO.step 4 rfl zK zq4 zq19 ?_; (refine T.buildSlice Wanted.none rfl rfl zq11 zX zX ?_; intro b18); refine yq30 ?_; refine TO.step 5 rfl zK zq4 zq19 ?_; (refine T.appendP (lv := lo) Wanted.none rfl rfl rfl ho (Src.cells (m := 1) (ys := nV .i64 [x]) (.own zq2) rfl rfl) (nV_one _ _) zO zq1 ?_; intro v19 lv19 hv19 _; have hv19 := NRow.app hv19; obtain ⟨ad19, cap19, rfl⟩ := hv19.val); refine yq30 ?_; refine TO.take 10 rfl zK zK zK (PV.assign rfl) Wanted.none rfl rfl ?_; refine TO.take 11 rfl zK zK zK (PV.assign rfl) Wanted.none rfl rfl ?_; refine TO.take 12 rfl zK zK zK (PV.assign rfl) Wanted.none rfl rfl ?_; refine yq37 ?_; refine J2 ?_
        exact T.nextP ⟨slV 1 (some ⟨b1, off1, none⟩) 1 (x :: la).length capa, slV 1 (some ⟨b2, off2, none⟩) 1 (x :: lb).length capb, .slice ad19 (o ++ [x]).length cap19, lv19, la, lb, o ++ [x]⟩ ⟨hsx, hsy, hv19, by dsimp only; rw [List.append_assoc]; exact huo, by dsimp only; omega, by dsimp only; omega, by dsimp only; rw [List.length_append, List.length_singleton]; omega, hax', hbx'⟩ (by dsimp only; simp only [List.length_cons]; omega) zq8 zq23 rfl
      · have hd3 : decide ((x : Int) < (y : Int)) = false := decide_eq_false zO
        have hd4 : decide ((y : Int) < (x : Int)) = true := decide_eq_true zO
        rw [if_neg zO, if_pos hxy] at huo
        refine J7 ?_; refine yq0 ?_; refine T.pv (PV.lenSl rfl) (Wanted.guard rfl rfl zA) rfl rfl ?_; refine yq78 ?_; refine so ?_; refine yq9 ?_; refine J3 ?_
        (repeat refine sq ?_)
        refine T.regionO [] zK ?_; refine yq49 ?_; refine yq40 ?_; refine yq22 ?_; refine yq41 ?_; refine TO.take 6 rfl zK zK zK (PV.lss rfl rfl) Wanted.none rfl rfl ?_; refine yq88 ?_; refine yq6 ?_
        (repeat refine sq ?_)
        refine T.regionO [] zK ?_; refine yq49 ?_; refine yq40 ?_; refine yq22 ?_; refine yq41 ?_; refine TO.take 6 rfl zK zK zK (PV.gtr rfl rfl) Wanted.none rfl rfl ?_; refine yq88 ?_; refine yq9 ?_
        (repeat refine sq ?_)
        refine T.regionO [] zK ?_; refine yq3 ?_; refine yq62 ?_; refine yq102 ?_; refine TO.step 4 rfl zK zq4 zq19 ?_; (refine T.buildSlice Wanted.none rfl rfl zq11 zX zX ?_; intro b52); refine yq30 ?_; refine TO.step 5 rfl zK zq4 zq19 ?_; (refine T.appendP (lv := lo) Wanted.none rfl rfl rfl ho (Src.cells (m := 1) (ys := nV .i64 [y]) (.own zq2) rfl rfl) (nV_one _ _) zO zq1 ?_; intro v53 lv53 hv53 _; have hv53 := NRow.app hv53; obtain ⟨ad53, cap53, rfl⟩ := hv53.val); refine yq30 ?_; refine TO.take 8 rfl zK zK zK (PV.assign rfl) Wanted.none rfl rfl ?_; refine TO.take 9 rfl zK zK zK (PV.assign rfl) Wanted.none rfl rfl ?_; refine yq37 ?_; refine J2 ?_
        exact T.nextP ⟨.slice (some ⟨b1, off1, none⟩) (x :: la).length capa, slV 1 (some ⟨b2, off2, none⟩) 1 (y :: lb).length capb, .slice ad53 (o ++ [y]).length cap53, lv53, x :: la, lb, o ++ [y]⟩ ⟨ha, hsy, hv53, by dsimp only; rw [List.append_assoc]; exact huo, by dsimp only; rw [List.length_cons]; omega, by dsimp only; omega, by dsimp only; simp only [List.length_append, List.length_cons, List.length_nil]; omega, hax, hbx'⟩ (by dsimp only; simp only [List.length_cons]; omega) zq8 zq23 rfl

end Go.Proofs.YtecogbhbkccblaaGreatDoor
namespace Go.Proofs.YtecogbhbkccblaaGreatDoor
open Go.RowKit


/-- a frozen row of frozen rows of numbers -/
def RoR (H : Hp) (v : Value) (vs : List Value) (xs : List (List Nat)) : Prop := SlR H 1 v vs.length vs ∧ BunF H .i64 vs xs
theorem RoR.mono {H H' : Hp} {v : Value} {vs : List Value} {xs : List (List Nat)} (h : RoR H v vs xs) (hl : H.le H') : RoR H' v vs xs := ⟨h.1.mono hl, h.2.mono hl⟩
theorem RoR.at {H : Hp} {ad : Option Addr} {n cap : Nat} {vs : List Value} {xs : List (List Nat)} (h : RoR H (.slice ad n cap) vs xs) {i : Nat} {x : List Nat} (hx : xs[i]? = some x) : ∃ b off v, ad = some ⟨b, off, none⟩ ∧ NSl H .i64 v x ∧ SubC H b (off + i * 1) [v] := by
  obtain ⟨v, hv, hn⟩ := h.2.at hx
  have hi := (List.getElem?_eq_some_iff.1 hv).1
  have he : (vs.drop (i * 1)).take 1 = [v] := by
    rw [Nat.mul_one, List.drop_eq_getElem_cons hi, (List.getElem?_eq_some_iff.1 hv).2]; rfl
  obtain ⟨b, off, cap', hve, hsub⟩ := h.1.elem (i := i) hi he
  injection hve with e1 e2 e3
  exact ⟨b, off, v, e1, hn, hsub⟩
theorem checkAll_fn (vs : List Value) (xs : List (List Nat)) (av : Value) (H : Hp) (ha : RoR H av vs xs) (hl : xs.length ≤ 4096) (hp : ∀ x ∈ xs, PsOk x) : Fn Tryz.prog 48 #[av] H (fun u _ => u = .int .i64 0) := by
  have hvl := ha.2.len
  obtain ⟨ad, cap, rfl⟩ := ha.1.len
  refine Fn.of_T (vs := [.slice ad vs.length cap]) Tryz.func48 rfl rfl fun w => ?_; refine J12 ?_; refine T.loopK [(7, Value.int IntKind.i64 (↑vs.length : Int)), (6, Value.slice ad vs.length cap)] zq8 (γ := Nat) (fun i => i ≤ xs.length) (fun i => [(8, .int .i64 (i : Int))]) (fun _ => []) (fun _ => H) (fun i => xs.length - i) 0 (Nat.zero_le _) zq8 zq23 rfl ?_
  intro i hi
  by_cases h : i < xs.length
  · obtain ⟨x, hx⟩ : ∃ x, xs[i]? = some x := ⟨_, List.getElem?_eq_getElem h⟩
    obtain ⟨b, off, v, rfl, hv, hsub⟩ := ha.at hx
    obtain ⟨a1, c1, rfl⟩ := hv.len
    have hck := lcheck_fn x _ H hv (hp x (List.mem_of_getElem? hx))
    have hd : decide ((i : Int) < (vs.length : Int)) = true := decide_eq_true zO
    refine yq94 ?_; refine J5 ?_; refine T.callV Wanted.none rfl rfl (hck) ?_; refine J14 ?_
    exact T.nextP (i + 1) zO zO zq8 zq23 rfl
  · have hd : decide ((i : Int) < (vs.length : Int)) = false := decide_eq_false zO
    refine yq44 ?_; refine J5 ?_
    exact T.retF (Lv.fin (RV.tmp rfl rfl) rfl)
def uniA (xs : List (List Nat)) : List Nat := xs.foldl uni []
theorem uniA_succ {xs : List (List Nat)} {i : Nat} {x : List Nat} (h : xs[i]? = some x) : uniA (xs.take (i + 1)) = uni (uniA (xs.take i)) x := by
  unfold uniA
  rw [List.take_add_one, h, List.foldl_append]; rfl
structure MgG where
  i : Nat
  v : Value
  H : Hp
theorem lmerge_fn (vs : List Value) (xs : List (List Nat)) (av : Value) (H : Hp) (ha : RoR H av vs xs) (hl : xs.length ≤ 4096) (hp : ∀ x ∈ xs, PsOk x) (hu : ∀ i, i ≤ xs.length → PsOk (uniA (xs.take i))) : Fn Tryz.prog 21 #[av] H (fun u H' => ∃ v, u = .tuple #[v, .int .i64 0] ∧ NSl H' .i64 v (uniA xs)) := by
  have hvl := ha.2.len
  have hck := checkAll_fn vs xs av H ha hl hp
  obtain ⟨ad, cap, rfl⟩ := ha.1.len
  refine Fn.of_T (vs := [.slice ad vs.length cap]) Tryz.func21 rfl rfl fun w => ?_; refine J9 ?_; refine T.callV Wanted.none rfl rfl (hck) ?_; refine J21 ?_; refine T.loopK [(14, Value.int IntKind.i64 (↑vs.length : Int)), (13, Value.slice ad vs.length cap)] zq8 (γ := MgG) (fun g => g.i ≤ xs.length ∧ H.le g.H ∧ NSl g.H .i64 g.v (uniA (xs.take g.i))) (fun g => [(15, .int .i64 (g.i : Int)), (5, g.v)]) (fun _ => []) (fun g => g.H) (fun g => xs.length - g.i) ⟨0, .slice none 0 0, H⟩ ⟨Nat.zero_le _, Hp.le.refl _, NSl.nil⟩ zq8 zq23 rfl ?_
  rintro ⟨i, v, H1⟩ ⟨hi, hle, hv⟩
  dsimp only at hi hle hv ⊢
  obtain ⟨av, cv, rfl⟩ := hv.len
  have hui := hu i hi
  have huil := hui.len
  by_cases h : i < xs.length
  · obtain ⟨x, hx⟩ : ∃ x, xs[i]? = some x := ⟨_, List.getElem?_eq_getElem h⟩
    obtain ⟨b, off, v, rfl, hxv, hsub⟩ := (ha.mono hle).at hx
    obtain ⟨a1, c1, rfl⟩ := hxv.len
    have hpx := hp x (List.mem_of_getElem? hx)
    have hpl := hpx.len
    have hun := lunion_fn (uniA (xs.take i)) x _ _ H1 hv hxv zO zO (fun y hy => by have := hui.lt y hy; omega) (fun y hy => by have := hpx.lt y hy; omega)
    rw [← uniA_succ hx] at hun
    have hu2 := (hu (i + 1) h).len
    have hd : decide ((i : Int) < (vs.length : Int)) = true := decide_eq_true zO
    have hd2 : decide ((4096 : Int) < ((uniA (xs.take (i + 1))).length : Int)) = false := decide_eq_false zO
    refine yq94 ?_; refine J6 ?_; (refine T.call Wanted.none rfl rfl hun ?_; rintro v21 H2 hle2 hv21; obtain ⟨ad21, cap21, rfl⟩ := hv21.len); refine J8 ?_; refine yq85 ?_
    exact T.nextP ⟨i + 1, .slice ad21 (uniA (xs.take (i + 1))).length cap21, H2⟩ ⟨by dsimp only; omega, hle.trans hle2, hv21⟩ zE zq8 zq23 rfl
  · have hd : decide ((i : Int) < (vs.length : Int)) = false := decide_eq_false zO
    obtain rfl : i = xs.length := by omega
    rw [List.take_length] at hv ⊢
    refine yq44 ?_; refine J7 ?_
    exact T.retF (Lv.fin (RV.tmp2 rfl rfl rfl) ⟨_, rfl, hv⟩)

end Go.Proofs.YtecogbhbkccblaaGreatDoor
