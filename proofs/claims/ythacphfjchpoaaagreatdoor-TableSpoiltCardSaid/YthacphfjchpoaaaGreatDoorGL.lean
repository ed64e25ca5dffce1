/- table: the shape of a group: the program, the reference.
   table: the errors of groups. -/
import Derived.Test.YthacphfjchpoaaaGreatDoorGK
namespace Go.Proofs.YthacphfjchpoaaaGreatDoor
open Go.RowKit

/-- whether a group has the fields of its kind, and no others -/
def shapeG (g : Gp) : Bool :=
  if g.k = 1 then decide (1 ≤ g.at_) && (decide (g.at_ ≤ 3) && ((decide (g.at_ = 3) || decide (g.lb = bs [])) && decide (g.rg = bs [])))
  else if g.k = 2 then decide (g.at_ = 0) && (decide (g.off = 0) && (decide (g.lb = bs []) && decide (g.rg = bs [])))
  else if g.k = 3 then decide (g.at_ = 0) && (decide (g.off = 0) && decide (g.lb = bs []))
  else if g.k = 4 then decide (g.at_ = 0) && (decide (g.off = 0) && (decide (g.lb = bs []) && (decide (g.nm = bs []) && decide (g.rg = bs []))))
  else false
theorem eq6 (k1 a1 o1 k2 a2 o2 : Int) (l1 n1 r1 l2 n2 r2 : ByteArray) : eqCells [.int .i64 k1, .int .i64 a1, .int .i64 o1, .string l1, .string n1, .string r1] [.int .i64 k2, .int .i64 a2, .int .i64 o2, .string l2, .string n2, .string r2] =
    (decide (k1 = k2) && (decide (a1 = a2) && (decide (o1 = o2) && (decide (l1 = l2) && (decide (n1 = n2) && decide (r1 = r2)))))) := by
  simp [eqCells, cellEq]
set_option maxHeartbeats 2000000 in
theorem shape_in (g : Gp) (H : Hp) : Fn Tryz.prog 62 #[gpV g] H (fun u _ => u = .bool (shapeG g)) := by
  unfold gpV
  refine Fn.of_T (vs := [.agg #[.int .i64 g.k, .int .i64 g.at_, .int .i64 g.off, .string g.lb, .string g.nm, .string g.rg]]) Tryz.func62 rfl rfl fun w => ?_
  by_cases k1 : g.k = 1
  · have hs : shapeG g = (decide (1 ≤ g.at_) && (decide (g.at_ ≤ 3) && ((decide (g.at_ = 3) || decide (g.lb = bs [])) && decide (g.rg = bs [])))) := by unfold shapeG; rw [if_pos k1]
    by_cases a1 : g.at_ < 1
    · refine zs3 ?_; (refine T.box Wanted.none rfl rfl zq15 ?_; intro b1); refine yq23 ?_; refine yq148 ?_; refine sv (PV.build rfl zq12) ?_; refine sy fun b3 => ?_; refine yq13 ?_; refine yq186 ?_; refine yq113 ?_; refine yq73 ?_; refine yq49 ?_; refine T.setT (d := 16) rfl (by omega) ?_; refine yq8 ?_; refine sp ?_; refine yq157 ?_; refine yq25 ?_
      exact T.retF (Lv.fin (RV.tmp rfl rfl) (by rw [hs, decide_eq_false (by omega)]; rfl))
    by_cases a2 : 3 < g.at_
    · refine zs3 ?_; (refine T.box Wanted.none rfl rfl zq15 ?_; intro b1); refine yq23 ?_; refine yq148 ?_; refine sv (PV.build rfl zq12) ?_; refine sy fun b3 => ?_; refine yq13 ?_; refine yq186 ?_; refine yq113 ?_; refine yq73 ?_; refine yq49 ?_; refine T.setF (d := 16) rfl (by omega) ?_; refine yq29 ?_; refine gv (PV.gtr rfl rfl) ?_; refine sF ?_; refine yq46 ?_; refine yq25 ?_
      exact T.retF (Lv.fin (RV.tmp rfl rfl) (by rw [hs, decide_eq_true (by omega), decide_eq_false (by omega)]; rfl))
    by_cases a3 : g.at_ = 3
    · refine zs3 ?_; (refine T.box Wanted.none rfl rfl zq15 ?_; intro b1); refine yq23 ?_; refine yq148 ?_; refine sv (PV.build rfl zq12) ?_; refine sy fun b3 => ?_; refine yq13 ?_; refine yq186 ?_; refine yq113 ?_; refine yq73 ?_; refine yq49 ?_; refine T.setF (d := 16) rfl (by omega) ?_; refine yq29 ?_; refine gv (PV.gtr rfl rfl) ?_; refine sF ?_; refine yq88 ?_
      (repeat refine sq ?_)
      refine T.regionO [(b1, .cells #[.int .i64 g.k, .int .i64 g.at_, .int .i64 g.off, .string g.lb, .string g.nm, .string g.rg] 57 (0, 0))] (by kernel_rfl) ?_; refine yq40 ?_; refine TO.take 2 rfl (by kernel_rfl) (by kernel_rfl) (by kernel_rfl) (PV.fieldAddr rfl) Wanted.none rfl rfl ?_; refine TO.take 3 rfl (by kernel_rfl) (by kernel_rfl) (by kernel_rfl) (PV.load1 rfl zq0 rfl) Wanted.none rfl rfl ?_; refine TO.take 4 rfl (by kernel_rfl) (by kernel_rfl) (by kernel_rfl) (PV.fieldAddr rfl) Wanted.none rfl rfl ?_; refine TO.step 5 rfl (by kernel_rfl) zq4 zq17 ?_; refine T.store1 Wanted.none rfl rfl rfl zq14 zq13 ?_; refine yq62 ?_; refine TO.take 6 rfl (by kernel_rfl) (by kernel_rfl) (by kernel_rfl) (PV.fieldAddr rfl) Wanted.none rfl rfl ?_; refine TO.step 7 rfl (by kernel_rfl) zq4 zq17 ?_; refine T.store1 Wanted.none rfl rfl rfl zq14 zq13 ?_; refine yq62 ?_; refine TO.done (by kernel_rfl) zq4 zq17 ?_; refine yq41 ?_; refine sv (PV.eql rfl rfl) ?_; refine yq46 ?_; refine sr ?_; refine yq5 ?_; refine yq116 ?_; refine so ?_; refine T.blkEnd ?_; refine zs3 ?_; refine yq20 ?_; refine sv (PV.aeql rfl rfl rfl rfl) ?_; refine yq0 ?_
      exact T.retF (Lv.fin (RV.tmp rfl rfl) (by rw [hs, eq6, decide_eq_true (show 1 ≤ g.at_ by omega), decide_eq_true (show g.at_ ≤ 3 by omega), decide_eq_true a3]; simp; rfl))
    · refine zs3 ?_; (refine T.box Wanted.none rfl rfl zq15 ?_; intro b1); refine yq23 ?_; refine yq148 ?_; refine sv (PV.build rfl zq12) ?_; refine sy fun b3 => ?_; refine yq13 ?_; refine yq186 ?_; refine yq113 ?_; refine yq73 ?_; refine yq49 ?_; refine T.setF (d := 16) rfl (by omega) ?_; refine yq29 ?_; refine gv (PV.gtr rfl rfl) ?_; refine sF ?_; refine yq88 ?_
      (repeat refine sq ?_)
      refine T.regionO [(b1, .cells #[.int .i64 g.k, .int .i64 g.at_, .int .i64 g.off, .string g.lb, .string g.nm, .string g.rg] 57 (0, 0))] (by kernel_rfl) ?_; refine yq40 ?_; refine TO.take 2 rfl (by kernel_rfl) (by kernel_rfl) (by kernel_rfl) (PV.fieldAddr rfl) Wanted.none rfl rfl ?_; refine TO.take 3 rfl (by kernel_rfl) (by kernel_rfl) (by kernel_rfl) (PV.load1 rfl zq0 rfl) Wanted.none rfl rfl ?_; refine TO.take 4 rfl (by kernel_rfl) (by kernel_rfl) (by kernel_rfl) (PV.fieldAddr rfl) Wanted.none rfl rfl ?_; refine TO.step 5 rfl (by kernel_rfl) zq4 zq17 ?_; refine T.store1 Wanted.none rfl rfl rfl zq14 zq13 ?_; refine yq62 ?_; refine TO.take 6 rfl (by kernel_rfl) (by kernel_rfl) (by kernel_rfl) (PV.fieldAddr rfl) Wanted.none rfl rfl ?_; refine TO.step 7 rfl (by kernel_rfl) zq4 zq17 ?_; refine T.store1 Wanted.none rfl rfl rfl zq14 zq13 ?_; refine yq62 ?_; refine TO.done (by kernel_rfl) zq4 zq17 ?_; refine yq41 ?_; refine sv (PV.eql rfl rfl) ?_; refine yq88 ?_; refine T.blkEnd ?_; refine zs3 ?_; refine yq20 ?_; refine sv (PV.aeql rfl rfl rfl rfl) ?_; refine yq0 ?_
      exact T.retF (Lv.fin (RV.tmp rfl rfl) (by rw [hs, eq6, decide_eq_true (show 1 ≤ g.at_ by omega), decide_eq_true (show g.at_ ≤ 3 by omega), decide_eq_false a3]; simp; rfl))
  by_cases k2 : g.k = 2
  · have hs : shapeG g = (decide (g.at_ = 0) && (decide (g.off = 0) && (decide (g.lb = bs []) && decide (g.rg = bs [])))) := by unfold shapeG; rw [if_neg k1, if_pos k2]
    refine zs3 ?_; (refine T.box Wanted.none rfl rfl zq15 ?_; intro b1); refine yq23 ?_; refine yq148 ?_; refine sv (PV.build rfl zq12) ?_; refine sy fun b3 => ?_; refine yq13 ?_; refine yq186 ?_; refine yq53 ?_; refine yq44 ?_; refine yq7 ?_; refine T.blkEnd ?_; refine zs3 ?_; refine yq20 ?_; refine sv (PV.aeql rfl rfl rfl rfl) ?_; refine yq0 ?_
    exact T.retF (Lv.fin (RV.tmp rfl rfl) (by rw [hs, eq6]; simp; rfl))
  by_cases k3 : g.k = 3
  · have hs : shapeG g = (decide (g.at_ = 0) && (decide (g.off = 0) && decide (g.lb = bs []))) := by unfold shapeG; rw [if_neg k1, if_neg k2, if_pos k3]
    refine zs3 ?_; (refine T.box Wanted.none rfl rfl zq15 ?_; intro b1); refine yq23 ?_; refine yq148 ?_; refine sv (PV.build rfl zq12) ?_; refine sy fun b3 => ?_; refine yq13 ?_; refine yq186 ?_; refine yq53 ?_; refine yq53 ?_; refine yq113 ?_; refine sr ?_; refine yq5 ?_; refine yq116 ?_; refine so ?_; refine T.blkEnd ?_
    refine zs3 ?_; refine yq20 ?_; refine sv (PV.aeql rfl rfl rfl rfl) ?_; refine yq0 ?_
    exact T.retF (Lv.fin (RV.tmp rfl rfl) (by rw [hs, eq6]; simp; rfl))
  by_cases k4 : g.k = 4
  · have hs : shapeG g = (decide (g.at_ = 0) && (decide (g.off = 0) && (decide (g.lb = bs []) && (decide (g.nm = bs []) && decide (g.rg = bs []))))) := by unfold shapeG; rw [if_neg k1, if_neg k2, if_neg k3, if_pos k4]
    refine zs3 ?_; (refine T.box Wanted.none rfl rfl zq15 ?_; intro b1); refine yq23 ?_; refine yq148 ?_; refine sv (PV.build rfl zq12) ?_; refine sy fun b3 => ?_; refine yq13 ?_; refine yq186 ?_; refine yq53 ?_; refine yq53 ?_; refine yq53 ?_; refine yq113 ?_; refine sr ?_; refine sf ?_
    refine T.store1 Wanted.none rfl rfl rfl zq14 zq13 ?_; refine so ?_; refine T.blkEnd ?_; refine zs3 ?_; refine yq20 ?_; refine sv (PV.aeql rfl rfl rfl rfl) ?_; refine yq0 ?_
    exact T.retF (Lv.fin (RV.tmp rfl rfl) (by rw [hs, eq6]; simp; rfl))
  refine zs3 ?_; (refine T.box Wanted.none rfl rfl zq15 ?_; intro b1); refine yq23 ?_; refine yq148 ?_; refine sv (PV.build rfl zq12) ?_; refine sy fun b3 => ?_; refine yq13 ?_; refine yq186 ?_; refine yq53 ?_; refine yq53 ?_; refine yq53 ?_; refine yq53 ?_; refine zs3 ?_; refine sa ?_
  refine so ?_
  exact T.retF (Lv.fin (RV.tmp rfl rfl) (by unfold shapeG; rw [if_neg k1, if_neg k2, if_neg k3, if_neg k4]))
set_option maxHeartbeats 2000000 in
theorem shape_ref (g : Gp) (H : Hp) : Fn Tryz.prog 35 #[gpV g] H (fun u _ => u = .bool (shapeG g)) := by
  unfold gpV
  refine Fn.of_T (vs := [.agg #[.int .i64 g.k, .int .i64 g.at_, .int .i64 g.off, .string g.lb, .string g.nm, .string g.rg]]) Tryz.func35 rfl rfl fun w => ?_
  by_cases k1 : g.k = 1
  · have hs : shapeG g = (decide (1 ≤ g.at_) && (decide (g.at_ ≤ 3) && ((decide (g.at_ = 3) || decide (g.lb = bs [])) && decide (g.rg = bs [])))) := by unfold shapeG; rw [if_pos k1]
    by_cases a1 : 1 ≤ g.at_
    · by_cases a2 : g.at_ ≤ 3
      · by_cases a3 : g.at_ = 3
        · refine zs3 ?_; (refine T.box Wanted.none rfl rfl zq15 ?_; intro b1); refine yq0 ?_; refine yq186 ?_; refine yq113 ?_; refine yq41 ?_; refine yq59 ?_; refine T.setT (d := 10) rfl (by omega) ?_; refine yq97 ?_; refine yq141 ?_; refine T.setT (d := 15) rfl (by omega) ?_; refine yq29 ?_; refine gv (PV.eql rfl rfl) ?_; refine gm ?_; refine T.setT (d := 19) rfl (by omega) ?_; refine yq8 ?_; refine sp ?_; refine gv (PV.pickT rfl rfl rfl) ?_; refine yq141 ?_; refine yq29 ?_
          refine gv (PV.seql rfl rfl) ?_; refine sT ?_; refine yq0 ?_
          exact T.retF (Lv.fin (RV.tmp rfl rfl) (by rw [hs, decide_eq_true a1, decide_eq_true a2, decide_eq_true a3]; rfl))
        · cases a4 : decide (g.lb = bs [])
          · have a4 : decide (g.lb = ⟨#[]⟩) = false := a4
            refine zs3 ?_; (refine T.box Wanted.none rfl rfl zq15 ?_; intro b1); refine yq0 ?_; refine yq186 ?_; refine yq113 ?_; refine yq41 ?_; refine yq59 ?_; refine T.setT (d := 10) rfl (by omega) ?_; refine yq97 ?_; refine yq141 ?_; refine T.setT (d := 15) rfl (by omega) ?_; refine yq29 ?_; refine gv (PV.eql rfl rfl) ?_; refine gm ?_; refine T.setF (d := 19) rfl (by omega) ?_; refine yq29 ?_; refine gv (PV.seql rfl rfl) ?_; refine gv (PV.pickF rfl rfl rfl) ?_; refine yq141 ?_; refine yq57 ?_
            refine T.pass (Unwanted.guard rfl rfl (by assumption)) rfl rfl ?_; refine sv (PV.pickF rfl (by assumption) rfl) ?_; refine yq0 ?_
            exact T.retF (Lv.fin (RV.tmp rfl rfl) (by rw [hs, decide_eq_true a1, decide_eq_true a2, decide_eq_false a3, show decide (g.lb = bs []) = false from a4]; rfl))
          · have a4 : decide (g.lb = ⟨#[]⟩) = true := a4
            refine zs3 ?_; (refine T.box Wanted.none rfl rfl zq15 ?_; intro b1); refine yq0 ?_; refine yq186 ?_; refine yq113 ?_; refine yq41 ?_; refine yq59 ?_; refine T.setT (d := 10) rfl (by omega) ?_; refine yq97 ?_; refine yq141 ?_; refine T.setT (d := 15) rfl (by omega) ?_; refine yq29 ?_; refine gv (PV.eql rfl rfl) ?_; refine gm ?_; refine T.setF (d := 19) rfl (by omega) ?_; refine yq29 ?_; refine gv (PV.seql rfl rfl) ?_; refine gv (PV.pickF rfl rfl rfl) ?_; refine yq141 ?_; refine yq31 ?_
            refine T.pv (PV.seql rfl rfl) (Wanted.guard rfl rfl (by assumption)) rfl rfl ?_; refine sv (PV.pickT rfl (by assumption) rfl) ?_; refine yq0 ?_
            exact T.retF (Lv.fin (RV.tmp rfl rfl) (by rw [hs, decide_eq_true a1, decide_eq_true a2, decide_eq_false a3, show decide (g.lb = bs []) = true from a4]; rfl))
      · refine zs3 ?_; (refine T.box Wanted.none rfl rfl zq15 ?_; intro b1); refine yq0 ?_; refine yq186 ?_; refine yq113 ?_; refine yq41 ?_; refine yq59 ?_; refine T.setT (d := 10) rfl (by omega) ?_; refine yq97 ?_; refine yq141 ?_; refine T.setF (d := 15) rfl (by omega) ?_; refine yq66 ?_; refine yq93 ?_; refine su ?_; refine sp ?_; refine yq90 ?_; refine yq8 ?_; refine sp ?_
        refine yq118 ?_
        exact T.retF (Lv.fin (RV.tmp rfl rfl) (by rw [hs, decide_eq_true a1, decide_eq_false a2]; rfl))
    · refine zs3 ?_; (refine T.box Wanted.none rfl rfl zq15 ?_; intro b1); refine yq0 ?_; refine yq186 ?_; refine yq113 ?_; refine yq41 ?_; refine yq59 ?_; refine T.setF (d := 10) rfl (by omega) ?_; refine yq8 ?_; refine sp ?_; refine yq90 ?_; refine yq66 ?_; refine yq93 ?_; refine su ?_; refine sp ?_; refine yq90 ?_; refine yq8 ?_; refine sp ?_; refine sF ?_
      refine yq0 ?_
      exact T.retF (Lv.fin (RV.tmp rfl rfl) (by rw [hs, decide_eq_false a1]; rfl))
  by_cases k2 : g.k = 2
  · have hs : shapeG g = (decide (g.at_ = 0) && (decide (g.off = 0) && (decide (g.lb = bs []) && decide (g.rg = bs [])))) := by unfold shapeG; rw [if_neg k1, if_pos k2]
    refine zs3 ?_; (refine T.box Wanted.none rfl rfl zq15 ?_; intro b1); refine yq0 ?_; refine yq186 ?_; refine yq53 ?_; refine yq113 ?_; refine yq52 ?_; refine yq148 ?_; refine sv (PV.build rfl zq12) ?_; refine sv (PV.aeql rfl rfl rfl rfl) ?_; refine yq0 ?_
    exact T.retF (Lv.fin (RV.tmp rfl rfl) (by rw [hs, eq6]; simp; rfl))
  by_cases k3 : g.k = 3
  · have hs : shapeG g = (decide (g.at_ = 0) && (decide (g.off = 0) && decide (g.lb = bs []))) := by unfold shapeG; rw [if_neg k1, if_neg k2, if_pos k3]
    refine zs3 ?_; (refine T.box Wanted.none rfl rfl zq15 ?_; intro b1); refine yq0 ?_; refine yq186 ?_; refine yq53 ?_; refine yq53 ?_; refine yq113 ?_; refine yq52 ?_; refine yq148 ?_; refine yq5 ?_; refine sv (PV.build rfl zq12) ?_; refine sv (PV.aeql rfl rfl rfl rfl) ?_; refine yq0 ?_
    exact T.retF (Lv.fin (RV.tmp rfl rfl) (by rw [hs, eq6]; simp; rfl))
  by_cases k4 : g.k = 4
  · have hs : shapeG g = (decide (g.at_ = 0) && (decide (g.off = 0) && (decide (g.lb = bs []) && (decide (g.nm = bs []) && decide (g.rg = bs []))))) := by unfold shapeG; rw [if_neg k1, if_neg k2, if_neg k3, if_pos k4]
    refine zs3 ?_; (refine T.box Wanted.none rfl rfl zq15 ?_; intro b1); refine yq0 ?_; refine yq186 ?_; refine yq53 ?_; refine yq53 ?_; refine yq53 ?_; refine yq113 ?_; refine yq52 ?_; refine yq5 ?_; refine sv (PV.build rfl zq12) ?_; refine sv (PV.aeql rfl rfl rfl rfl) ?_; refine yq0 ?_
    exact T.retF (Lv.fin (RV.tmp rfl rfl) (by rw [hs, eq6]; simp; rfl))
  refine zs3 ?_; (refine T.box Wanted.none rfl rfl zq15 ?_; intro b1); refine yq0 ?_; refine yq186 ?_; refine yq53 ?_; refine yq53 ?_; refine yq53 ?_; refine yq44 ?_; refine yq22 ?_; refine T.blkEnd ?_; refine yq25 ?_
  exact T.retF (Lv.fin (RV.tmp rfl rfl) (by unfold shapeG; rw [if_neg k1, if_neg k2, if_neg k3, if_neg k4]))
end Go.Proofs.YthacphfjchpoaaaGreatDoor
namespace Go.Proofs.YthacphfjchpoaaaGreatDoor
open Go.RowKit

def badG (g : Gp) : Bool := !shapeG g
def nameG (c : Cp) (g : Gp) : Bool := decide (g.k = 1) && decide (attI c.att g.nm < 0)
def lostG (lb : List ByteArray) (g : Gp) : Bool := decide (g.k = 1) && (decide (g.at_ = 3) && !(lb.any fun x => decide (x = g.lb)))
def grpErr (c : Cp) (lb : List ByteArray) (gs : List Gp) : Int :=
  if gs.length < 1 ∨ 4 < gs.length then 1 else if gs.any badG then 1 else if gs.any (nameG c) then 4 else if gs.any (lostG lb) then 16 else 0
theorem any_inG {α : Type} {l : List α} {i : Nat} {x : α} {g : α → Bool} (h : l[i]? = some x) (hg : g x = true) : l.any g = true := List.any_eq_true.2 ⟨x, List.mem_of_getElem? h, hg⟩
theorem grpErr_len {c : Cp} {lb : List ByteArray} {gs : List Gp} (h : grpErr c lb gs = 0) : 1 ≤ gs.length ∧ gs.length ≤ 4 := by
  unfold grpErr at h
  split at h
  · cases h
  · omega
theorem check1_fn (g : Gp) (H : Hp) : Fn Tryz.prog 61 #[gpV g] H (fun u _ => u = .bool (badG g)) := by
  have hs := shape_in g H
  unfold gpV at hs ⊢
  refine Fn.of_T (vs := [.agg #[.int .i64 g.k, .int .i64 g.at_, .int .i64 g.off, .string g.lb, .string g.nm, .string g.rg]]) Tryz.func61 rfl rfl fun w => ?_; refine zs3 ?_; (refine T.box Wanted.none rfl rfl zq15 ?_; intro b1); refine yq95 ?_; refine T.callV Wanted.none rfl rfl (hs) ?_; refine sv (PV.not rfl) ?_; refine yq0 ?_
  exact T.retF (Lv.fin (RV.tmp rfl rfl) rfl)
theorem indexFunc_gp (l : List Gp) (v : Value) (H : Hp) (hv : GpL H v l) (hlb : l.length ≤ 1000000) (g : Gp → Bool) (gf : FuncId) [hE : Ent Tryz.prog gf] (cap : List Value) (hg : ∀ x ∈ l, Fn Tryz.prog gf (gpV x :: cap).toArray H (fun u _ => u = .bool (g x))) :
    Fn Tryz.prog 86 #[v, .func (.func gf) #[] cap.toArray] H (fun u _ => u = .int .i64 (ixI g l)) := by
  obtain ⟨ad, capv, rfl⟩ := hv.len
  refine Fn.of_T (vs := [.slice ad l.length capv, .func (.func gf) #[] cap.toArray]) Tryz.func86 rfl rfl fun w => ?_; refine yq25 ?_; refine yq112 ?_; refine T.loopC [(7, Value.int IntKind.i64 (↑l.length : Int)), (0, Value.slice ad l.length capv), (1, Value.func (Fn.func gf) #[] cap.toArray)] zq8 8 l.length (fun i => (l.take i).any g = false) rfl rfl ?_
  rintro i ⟨hi0, hi1⟩
  by_cases hi : i < l.length
  · obtain ⟨b, off, x, rfl, hix, hsub⟩ := RowL.get encGp_len hv hi
    have hgf := hg x (List.mem_of_getElem? hix)
    unfold gpV at hgf
    unfold encGp at hsub
    have hst : (l.take (i + 1)).any g = g x := by rw [List.take_add_one, hix, List.any_append, hi1]; simp
    refine yq87 ?_; refine yq56 ?_; refine yq162 ?_; refine yq1 ?_; refine T.callF (cap := cap) Wanted.none rfl rfl rfl (by exact hgf) ?_
    rintro _ H' hle rfl
    refine T.forget hle ?_ (Hp.le.refl _)
    cases hb : g x
    · refine yq92 ?_; refine yq61 ?_
      exact T.nextC hi (hst.trans hb) rfl zq8 (by repeat (first | exact Sel.refl _ | exact Sel.nil | (refine Sel.cons zq1 ?_) | (refine Sel.app zq1 ?_) | exact Sel.one zq1))
    · refine yq36 ?_; refine yq140 ?_
      refine T.retF (Lv.fin (RV.tmp rfl rfl) ?_)
      rw [ixI_hit hi1 hix hb]
  · rw [List.take_of_length_le (by omega)] at hi1
    refine yq195 ?_
    refine T.retF (Lv.fin (RV.tmp rfl rfl) ?_)
    rw [ixI_miss hi1]
theorem containsFunc_gp (l : List Gp) (v : Value) (H : Hp) (hv : GpL H v l) (hlb : l.length ≤ 1000000) (g : Gp → Bool) (gf : FuncId) [hE : Ent Tryz.prog gf] (cap : List Value) (hg : ∀ x ∈ l, Fn Tryz.prog gf (gpV x :: cap).toArray H (fun u _ => u = .bool (g x))) :
    Fn Tryz.prog 60 #[v, .func (.func gf) #[] cap.toArray] H (fun u _ => u = .bool (l.any g)) := by
  have hix := indexFunc_gp l v H hv hlb g gf cap hg
  refine Fn.of_T (vs := [v, .func (.func gf) #[] cap.toArray]) Tryz.func60 rfl rfl fun w => ?_; refine zs3 ?_; refine yq56 ?_; refine sm ?_; refine T.callX Wanted.none rfl rfl hix ?_
  rintro _ rfl
  refine sv (PV.geq rfl rfl) ?_; refine yq0 ?_
  refine T.retF (Lv.fin (RV.tmp rfl rfl) ?_)
  rw [ixI_nonneg]
set_option maxHeartbeats 2000000 in
theorem check_in (c : Cp) (lb : List ByteArray) (gs : List Gp) (vl vg : Value) (H : Hp) (hc : CpL H c) (hlb : StL H vl lb) (hg : GpL H vg gs) (hl : lb.length ≤ 1000) (hgl : gs.length ≤ 1000000) :
    Fn Tryz.prog 32 #[cpV c, vl, vg] H (fun u _ => u = .int .i64 (grpErr c lb gs)) := by
  have hct := containsFunc_gp gs vg H hg hgl badG 61 [] (fun g _ => check1_fn g H)
  obtain ⟨ab, cb, rfl⟩ := hlb.len
  obtain ⟨ag, cg, rfl⟩ := hg.len
  unfold cpV
  refine Fn.of_T (vs := [.agg #[c.va, c.vt, c.vx, c.vr, c.vn, c.vh, c.vs], .slice ab lb.length cb, .slice ag gs.length cg]) Tryz.func32 rfl rfl fun w => ?_
  by_cases h1 : gs.length < 1
  · refine zs3 ?_; (refine T.box Wanted.none rfl rfl zq15 ?_; intro b3); refine yq0 ?_; refine yq27 ?_; refine yq49 ?_; refine T.setT (d := 14) rfl (by omega) ?_; refine yq8 ?_; refine sp ?_; refine yq141 ?_; refine yq8 ?_; refine yq157 ?_; refine yq25 ?_
    exact T.retF (Lv.fin (RV.tmp rfl rfl) (by unfold grpErr; rw [if_pos (.inl h1)]))
  by_cases h4 : 4 < gs.length
  · refine zs3 ?_; (refine T.box Wanted.none rfl rfl zq15 ?_; intro b3); refine yq0 ?_; refine yq27 ?_; refine yq49 ?_; refine T.setF (d := 14) rfl (by omega) ?_; refine yq114 ?_; refine gv (PV.gtr rfl rfl) ?_; refine yq90 ?_; refine T.setT (d := 19) rfl (by omega) ?_; refine yq8 ?_; refine yq157 ?_; refine yq25 ?_
    exact T.retF (Lv.fin (RV.tmp rfl rfl) (by unfold grpErr; rw [if_pos (.inr h4)]))
  have h14 : ¬ (gs.length < 1 ∨ 4 < gs.length) := by omega
  cases hb : gs.any badG
  case true =>
    rw [hb] at hct
    refine zs3 ?_; (refine T.box Wanted.none rfl rfl zq15 ?_; intro b3); refine yq0 ?_; refine yq27 ?_; refine yq49 ?_; refine T.setF (d := 14) rfl (by omega) ?_; refine yq114 ?_; refine gv (PV.gtr rfl rfl) ?_; refine yq90 ?_; refine T.setF (d := 19) rfl (by omega) ?_; refine gm ?_; refine T.callV (Wanted.guard rfl rfl rfl) rfl rfl (hct) ?_; refine sF ?_; refine yq36 ?_; refine yq25 ?_
    exact T.retF (Lv.fin (RV.tmp rfl rfl) (by unfold grpErr; rw [if_neg h14, if_pos hb]))
  rw [hb] at hct
  have hb1 : ¬ gs.any badG = true := by rw [hb]; simp
  refine zs3 ?_; (refine T.box Wanted.none rfl rfl zq15 ?_; intro b3); refine yq0 ?_; refine yq27 ?_; refine yq49 ?_; refine T.setF (d := 14) rfl (by omega) ?_; refine yq114 ?_; refine gv (PV.gtr rfl rfl) ?_; refine yq90 ?_; refine T.setF (d := 19) rfl (by omega) ?_; refine gm ?_; refine T.callV (Wanted.guard rfl rfl rfl) rfl rfl (hct) ?_; refine sF ?_; refine yq92 ?_; refine yq112 ?_; refine T.loopC [(24, Value.int IntKind.i64 (↑gs.length : Int)), (23, Value.slice ag gs.length cg), (3, Value.pointer (some { block := b3, off := 0 })), (1, Value.slice ab lb.length cb), (2, Value.slice ag gs.length cg)] zq8 25 gs.length (fun i => (gs.take i).any (nameG c) = false) rfl rfl ?_
  rintro i2 ⟨hj0, hj1⟩
  by_cases hj : i2 < gs.length
  · obtain ⟨b, off, g, rfl, hix, hsub⟩ := RowL.get encGp_len hg hj
    unfold encGp at hsub
    have hat := attribute_in c.att c.va g.nm H hc.a hc.la
    by_cases k1 : g.k = 1
    · by_cases a1 : attI c.att g.nm < 0
      · have hb : gs.any (nameG c) = true := any_inG hix (by unfold nameG; rw [decide_eq_true k1, decide_eq_true a1]; rfl)
        refine yq110 ?_; refine sy fun b8 => ?_; refine yq115 ?_; refine yq105 ?_; refine T.setT (d := 32) rfl (by omega) ?_; refine yq161 ?_; refine T.callV (Wanted.guard rfl rfl rfl) rfl rfl (hat) ?_; refine yq134 ?_; refine yq46 ?_; refine yq25 ?_
        exact T.retF (Lv.fin (RV.tmp rfl rfl) (by unfold grpErr; rw [if_neg h14, if_neg hb1, if_pos hb]))
      · refine yq110 ?_; refine sy fun b8 => ?_; refine yq115 ?_; refine yq105 ?_; refine T.setT (d := 32) rfl (by omega) ?_; refine yq161 ?_; refine T.callV (Wanted.guard rfl rfl rfl) rfl rfl (hat) ?_; refine yq134 ?_; refine yq88 ?_; refine yq61 ?_
        exact T.nextC hj (ixI_drop hj1 hix (by unfold nameG; rw [decide_eq_false a1]; simp)) rfl zq8 (by repeat (first | exact Sel.refl _ | exact Sel.nil | (refine Sel.cons zq1 ?_) | (refine Sel.app zq1 ?_) | exact Sel.one zq1))
    · refine yq110 ?_; refine sy fun b8 => ?_; refine yq115 ?_; refine yq105 ?_; refine T.setF (d := 32) rfl (by omega) ?_; refine yq149 ?_; refine sF ?_; refine yq92 ?_; refine yq61 ?_
      exact T.nextC hj (ixI_drop hj1 hix (by unfold nameG; rw [decide_eq_false k1]; rfl)) rfl zq8 (by repeat (first | exact Sel.refl _ | exact Sel.nil | (refine Sel.cons zq1 ?_) | (refine Sel.app zq1 ?_) | exact Sel.one zq1))
  rw [List.take_of_length_le (by omega)] at hj1
  have hb2 : ¬ gs.any (nameG c) = true := by rw [hj1]; simp
  refine yq74 ?_; refine yq112 ?_; refine T.loopC [(42, Value.int IntKind.i64 (↑gs.length : Int)), (41, Value.slice ag gs.length cg), (1, Value.slice ab lb.length cb)] zq8 43 gs.length (fun i => (gs.take i).any (lostG lb) = false) rfl rfl ?_
  rintro i3 ⟨hm0, hm1⟩
  by_cases hm : i3 < gs.length
  · obtain ⟨b, off, g, rfl, hix, hsub⟩ := RowL.get encGp_len hg hm
    unfold encGp at hsub
    have hco := contains_str lb g.lb (.slice ab lb.length cb) H hlb hl
    by_cases k1 : g.k = 1
    · by_cases a1 : g.at_ = 3
      · cases hq : lb.any fun x => decide (x = g.lb)
        · have hb : gs.any (lostG lb) = true := any_inG hix (by unfold lostG; rw [decide_eq_true k1, decide_eq_true a1, hq]; rfl)
          rw [hq] at hco
          refine yq110 ?_; refine sy fun b10 => ?_; refine yq115 ?_; refine yq105 ?_; refine T.setT (d := 50) rfl (by omega) ?_; refine yq29 ?_; refine yq192 ?_; refine T.setT (d := 55) rfl (by omega) ?_; refine yq191 ?_; refine T.callV (Wanted.guard rfl rfl rfl) rfl rfl (hco) ?_; refine gv (PV.not rfl) ?_; refine yq157 ?_; refine yq25 ?_
          exact T.retF (Lv.fin (RV.tmp rfl rfl) (by unfold grpErr; rw [if_neg h14, if_neg hb1, if_neg hb2, if_pos hb]))
        · have hb : lostG lb g = false := by unfold lostG; rw [hq]; simp
          rw [hq] at hco
          refine yq110 ?_; refine sy fun b10 => ?_; refine yq115 ?_; refine yq105 ?_; refine T.setT (d := 50) rfl (by omega) ?_; refine yq29 ?_; refine yq192 ?_; refine T.setT (d := 55) rfl (by omega) ?_; refine yq191 ?_; refine T.callV (Wanted.guard rfl rfl rfl) rfl rfl (hco) ?_; refine gv (PV.not rfl) ?_; refine sT ?_; refine yq92 ?_; refine yq61 ?_
          exact T.nextC hm (ixI_drop hm1 hix hb) rfl zq8 (by repeat (first | exact Sel.refl _ | exact Sel.nil | (refine Sel.cons zq1 ?_) | (refine Sel.app zq1 ?_) | exact Sel.one zq1))
      · have hb : lostG lb g = false := by unfold lostG; rw [decide_eq_false a1]; simp
        refine yq110 ?_; refine sy fun b10 => ?_; refine yq115 ?_; refine yq105 ?_; refine T.setT (d := 50) rfl (by omega) ?_; refine yq29 ?_; refine yq192 ?_; refine T.setF (d := 55) rfl (by omega) ?_; refine yq143 ?_; refine sF ?_; refine yq92 ?_; refine yq61 ?_
        exact T.nextC hm (ixI_drop hm1 hix hb) rfl zq8 (by repeat (first | exact Sel.refl _ | exact Sel.nil | (refine Sel.cons zq1 ?_) | (refine Sel.app zq1 ?_) | exact Sel.one zq1))
    · have hb : lostG lb g = false := by unfold lostG; rw [decide_eq_false k1]; rfl
      refine yq110 ?_; refine sy fun b10 => ?_; refine yq115 ?_; refine yq105 ?_; refine T.setF (d := 50) rfl (by omega) ?_; refine yq8 ?_; refine sp ?_; refine yq90 ?_; refine yq143 ?_; refine sF ?_; refine yq92 ?_; refine yq61 ?_
      exact T.nextC hm (ixI_drop hm1 hix hb) rfl zq8 (by repeat (first | exact Sel.refl _ | exact Sel.nil | (refine Sel.cons zq1 ?_) | (refine Sel.app zq1 ?_) | exact Sel.one zq1))
  rw [List.take_of_length_le (by omega)] at hm1
  have hb3 : ¬ gs.any (lostG lb) = true := by rw [hm1]; simp
  refine yq195 ?_
  exact T.retF (Lv.fin (RV.tmp rfl rfl) (by unfold grpErr; rw [if_neg h14, if_neg hb1, if_neg hb2, if_neg hb3]))
end Go.Proofs.YthacphfjchpoaaaGreatDoor
