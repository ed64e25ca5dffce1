/- the example: the program's Validate, part by part.
   the example: the program's Validate.
   the example: the program's Validate says that it is valid. -/
import Derived.Test.YtecogbhbkccblaaGreatDoorGJ
set_option maxRecDepth 4000
set_option maxHeartbeats 40000000
set_option linter.all false
namespace Go.Proofs.YtecogbhbkccblaaGreatDoor
open Go.RowKit


theorem nmWord : NmOk bWord := ⟨by decide, ⟨_, rfl, by decide⟩, fun j h => by
  have : j < 4 := h
  rcases (by omega : j = 0 ∨ j = 1 ∨ j = 2 ∨ j = 3) with rfl | rfl | rfl | rfl <;> exact ⟨_, rfl, by decide⟩⟩
theorem nmS : NmOk bS := ⟨by decide, ⟨_, rfl, by decide⟩, fun j h => by
  obtain rfl : j = 0 := by have : j < 1 := h; omega
  exact ⟨_, rfl, by decide⟩⟩
theorem vAttr_fn (at1 ax ar : Option Addr) (ba oa cva nt ct nx cx nr cr : Nat) (H : Hp) (hva : SlR H 2 (.slice (some ⟨ba, oa, none⟩) 1 cva) 1 [.string bWord, .bool false]) :
    Fn Tryz.prog 87 #[.agg #[.slice (some ⟨ba, oa, none⟩) 1 cva, .slice at1 nt ct, .slice ax nx cx, .slice ar nr cr, nilS, nilS, nilS]] H (fun u _ => u = .tuple #[.int .i64 0, .int .i64 0]) := by
  obtain ⟨_, _, e, hsub⟩ := RowL.at (l := [(bWord, false)]) encAt_len hva (i := 0) rfl
  injection e with e
  injection e with e1 e2
  subst e1 e2
  unfold encAt at hsub
  have hcap := hva.cap
  have hvn := validNm_fn bWord H nmWord
  refine Fn.of_T (vs := [.agg #[.slice (some ⟨ba, oa, none⟩) 1 cva, .slice at1 nt ct, .slice ax nx cx, .slice ar nr cr, nilS, nilS, nilS]]) Tryz.func87 rfl rfl fun w => ?_; refine zs3 ?_; (refine T.box Wanted.none rfl rfl zq15 ?_; intro b1); refine J34 ?_; refine T.rounds 2 ?_; refine J6 ?_
  refine J7 ?_; refine yq20 ?_; refine sy fun b5 => ?_; refine sa ?_; refine yq2 ?_; refine J6 ?_; refine T.callV Wanted.none rfl rfl (hvn) ?_; refine J9 ?_; refine sv (PV.sliceH rfl rfl zO) ?_; refine J4 ?_; refine T.rounds 1 ?_; refine J11 ?_
  refine so ?_; refine T.again ?_; refine J12 ?_
  exact T.retF (Lv.fin (RV.tmp2 rfl rfl rfl) rfl)
theorem errVC_fn (nm v : ByteArray) (H : Hp) (hv : vvE v = 0) : Fn Tryz.prog 142 #[.agg #[.string nm, .bool false], .string v] H (fun u _ => u = .int .i64 0) := by
  have hvv := vv_fn v H
  rw [hv] at hvv
  refine Fn.of_T (vs := [.agg #[.string nm, .bool false], .string v]) Tryz.func142 rfl rfl fun w => ?_; refine zs3 ?_; (refine T.box Wanted.none rfl rfl zq15 ?_; intro b2); refine J13 ?_; refine T.callV Wanted.none rfl rfl (hvv) ?_; refine J2 ?_
  exact T.retF (Lv.fin (RV.tmp rfl rfl) rfl)
theorem vTok0_fn (va ax ar : Option Addr) (na ca nx cx nr cr : Nat) (H : Hp) :
    Fn Tryz.prog 88 #[.agg #[.slice va na ca, nilS, .slice ax nx cx, .slice ar nr cr, nilS, nilS, nilS]] H (fun u _ => u = .tuple #[.int .i64 0, .int .i64 0]) := by
  refine Fn.of_T (vs := [.agg #[.slice va na ca, nilS, .slice ax nx cx, .slice ar nr cr, nilS, nilS, nilS]]) Tryz.func88 rfl rfl fun w => ?_; refine zs3 ?_; (refine T.box Wanted.none rfl rfl zq15 ?_; intro b1); refine J22 ?_; refine T.rounds 1 ?_; refine J12 ?_
  exact T.retF (Lv.fin (RV.tmp2 rfl rfl rfl) rfl)
theorem pairs0_fn (ad : Option Addr) (cap : Nat) (H : Hp) : Fn Tryz.prog 144 #[.slice ad 0 cap] H (fun u _ => u = .int .i64 0) := by
  refine Fn.of_T (vs := [.slice ad 0 cap]) Tryz.func144 rfl rfl fun w => ?_; refine J21 ?_; refine T.rounds 1 ?_; refine J11 ?_
  exact T.retF (Lv.fin (RV.tmp rfl rfl) rfl)
theorem vTxt0_fn (va ar : Option Addr) (na ca nr cr : Nat) (H : Hp) :
    Fn Tryz.prog 89 #[.agg #[.slice va na ca, nilS, nilS, .slice ar nr cr, nilS, nilS, nilS]] H (fun u _ => u = .tuple #[.int .i64 0, .int .i64 0]) := by
  refine Fn.of_T (vs := [.agg #[.slice va na ca, nilS, nilS, .slice ar nr cr, nilS, nilS, nilS]]) Tryz.func89 rfl rfl fun w => ?_; refine zs3 ?_; (refine T.box Wanted.none rfl rfl zq15 ?_; intro b1); refine J41 ?_
  refine J2 ?_; refine T.rounds 1 ?_; refine J12 ?_
  exact T.retF (Lv.fin (RV.tmp2 rfl rfl rfl) rfl)
theorem vReg0_fn (va at1 ax : Option Addr) (na ca nt ct nx cx : Nat) (H : Hp) :
    Fn Tryz.prog 90 #[.agg #[.slice va na ca, .slice at1 nt ct, .slice ax nx cx, nilS, nilS, nilS, nilS]] H (fun u _ => u = .tuple #[.int .i64 0, .int .i64 0]) := by
  refine Fn.of_T (vs := [.agg #[.slice va na ca, .slice at1 nt ct, .slice ax nx cx, nilS, nilS, nilS, nilS]]) Tryz.func90 rfl rfl fun w => ?_; refine zs3 ?_; (refine T.box Wanted.none rfl rfl zq15 ?_; intro b1); refine J26 ?_; refine T.rounds 1 ?_; refine J12 ?_
  exact T.retF (Lv.fin (RV.tmp2 rfl rfl rfl) rfl)
theorem cycles0_fn (H : Hp) : Fn Tryz.prog 149 #[nilS] H (fun u _ => ∃ ad cap, u = .slice ad 0 cap) := by
  refine Fn.of_T (vs := [nilS]) Tryz.func149 rfl rfl fun w => ?_; refine J8 ?_; refine T.makeSliceN (n := 0) Wanted.none rfl rfl rfl zO ?_
  intro v lv hv
  obtain ⟨ad, cap, rfl⟩ := hv.val
  refine J6 ?_; refine T.makeSliceN (n := 0) Wanted.none rfl rfl rfl zO ?_
  intro v2 lv2 hv2
  obtain ⟨ad2, cap2, rfl⟩ := hv2.val
  refine J10 ?_; refine T.rounds 1 ?_; refine J12 ?_
  exact T.retF (Lv.fin (RV.tmp rfl rfl) ⟨_, _, rfl⟩)
theorem vNod0_fn (va at1 ax ar : Option Addr) (na ca nt ct nx cx nr cr : Nat) (H : Hp) :
    Fn Tryz.prog 91 #[.agg #[.slice va na ca, .slice at1 nt ct, .slice ax nx cx, .slice ar nr cr, nilS, nilS, nilS]] H (fun u _ => u = .tuple #[.int .i64 0, .int .i64 0]) := by
  refine Fn.of_T (vs := [.agg #[.slice va na ca, .slice at1 nt ct, .slice ax nx cx, .slice ar nr cr, nilS, nilS, nilS]]) Tryz.func91 rfl rfl fun w => ?_; refine zs3 ?_; (refine T.box Wanted.none rfl rfl zq15 ?_; intro b1); refine J19 ?_; refine T.makeSliceN (n := 1) Wanted.none rfl rfl rfl zO ?_
  intro v lv hv
  obtain ⟨ad, cap, rfl⟩ := hv.val
  refine J8 ?_; refine T.makeSliceN (n := 1) Wanted.none rfl rfl rfl zO ?_
  intro v2 lv2 hv2
  obtain ⟨ad2, cap2, rfl⟩ := hv2.val
  refine J11 ?_; refine T.rounds 1 ?_; refine J12 ?_
  exact T.retF (Lv.fin (RV.tmp2 rfl rfl rfl) rfl)
theorem vHd0_fn (va at1 ax ar : Option Addr) (na ca nt ct nx cx nr cr : Nat) (H : Hp) :
    Fn Tryz.prog 92 #[.agg #[.slice va na ca, .slice at1 nt ct, .slice ax nx cx, .slice ar nr cr, nilS, nilS, nilS]] H (fun u _ => u = .tuple #[.int .i64 0, .int .i64 0]) := by
  have hcy := cycles0_fn H
  refine Fn.of_T (vs := [.agg #[.slice va na ca, .slice at1 nt ct, .slice ax nx cx, .slice ar nr cr, nilS, nilS, nilS]]) Tryz.func92 rfl rfl fun w => ?_; refine zs3 ?_; (refine T.box Wanted.none rfl rfl zq15 ?_; intro b1); refine J41 ?_
  refine J15 ?_; (refine T.callX Wanted.none rfl rfl hcy ?_; rintro _ ⟨ad, cap, rfl⟩); refine J11 ?_; refine T.rounds 1 ?_; refine J12 ?_
  exact T.retF (Lv.fin (RV.tmp2 rfl rfl rfl) rfl)

end Go.Proofs.YtecogbhbkccblaaGreatDoor
namespace Go.Proofs.YtecogbhbkccblaaGreatDoor
open Go.RowKit


/-- the example's corpus in memory -/
structure ExC (H : Hp) (ba oa cva bt ot ct bx ox cx br or cr : Nat) : Prop where
  va : SlR H 2 (.slice (some ⟨ba, oa, none⟩) 1 cva) 1 [.string bWord, .bool false]
  vt : ∃ v1 v2, SlR H 1 (.slice (some ⟨bt, ot, none⟩) 2 ct) 2 [v1, v2] ∧ StL H v1 [⟨#[97]⟩] ∧ StL H v2 [⟨#[98]⟩]
  vx : SlR H 4 (.slice (some ⟨bx, ox, none⟩) 1 cx) 1 [.string bT, .int .i64 0, .int .i64 2, nilS]
  vr : ∃ ad cap, SlR H 4 (.slice (some ⟨br, or, none⟩) 1 cr) 1 [.string bS, .int .i64 0, .int .i64 1, .slice ad 0 cap]
abbrev exV (ba oa cva bt ot ct bx ox cx br or cr : Nat) : Value := .agg #[.slice (some ⟨ba, oa, none⟩) 1 cva, .slice (some ⟨bt, ot, none⟩) 2 ct, .slice (some ⟨bx, ox, none⟩) 1 cx, .slice (some ⟨br, or, none⟩) 1 cr, nilS, nilS, nilS]
section
variable {H : Hp} {ba oa cva bt ot ct bx ox cx br or cr : Nat}
theorem vTok2_fn (h : ExC H ba oa cva bt ot ct bx ox cx br or cr) : Fn Tryz.prog 88 #[exV ba oa cva bt ot ct bx ox cx br or cr] H (fun u _ => u = .tuple #[.int .i64 0, .int .i64 0]) := by
  obtain ⟨hva, ⟨v1, v2, hvt, h1, h2⟩, _, _⟩ := h
  have h1' : SlR H 1 v1 1 [.string ⟨#[97]⟩] := h1
  have h2' : SlR H 1 v2 1 [.string ⟨#[98]⟩] := h2
  clear h1 h2
  obtain ⟨a1, c1, rfl⟩ := h1'.len
  obtain ⟨a2, c2, rfl⟩ := h2'.len
  obtain ⟨_, _, e, hsub⟩ := RowL.at (l := [(bWord, false)]) encAt_len hva (i := 0) rfl
  injection e with e
  injection e with e1 e2
  subst e1 e2
  unfold encAt at hsub
  obtain ⟨_, _, e, hs1⟩ := RowL.at (l := [(⟨.slice a1 1 c1, []⟩ : Tk), ⟨.slice a2 1 c2, []⟩]) encTk_len hvt (i := 0) rfl
  injection e with e
  injection e with e1 e2
  subst e1 e2
  obtain ⟨_, _, e, hs2⟩ := RowL.at (l := [(⟨.slice a1 1 c1, []⟩ : Tk), ⟨.slice a2 1 c2, []⟩]) encTk_len hvt (i := 1) rfl
  injection e with e
  injection e with e1 e2
  subst e1 e2
  unfold encTk at hs1 hs2
  obtain ⟨b1, o1, rfl, hs3⟩ := RowL.at (l := [(⟨#[97]⟩ : ByteArray)]) encT_len h1' (i := 0) rfl
  obtain ⟨b2, o2, rfl, hs4⟩ := RowL.at (l := [(⟨#[98]⟩ : ByteArray)]) encT_len h2' (i := 0) rfl
  unfold encT at hs3 hs4
  have he1 := errVC_fn bWord ⟨#[97]⟩ H vv_a
  have he2 := errVC_fn bWord ⟨#[98]⟩ H vv_b
  refine Fn.of_T (vs := [exV ba oa cva bt ot ct bx ox cx br or cr]) Tryz.func88 rfl rfl fun w => ?_; refine zs3 ?_; (refine T.box Wanted.none rfl rfl zq15 ?_; intro b1); refine J22 ?_; refine T.rounds 3 ?_; refine J13 ?_; refine yq10 ?_; refine J4 ?_
  refine J18 ?_; refine T.rounds 2 ?_; refine J13 ?_; refine yq10 ?_; refine J9 ?_; refine yq20 ?_; refine sm ?_; refine T.callV Wanted.none rfl rfl (he1) ?_; refine sa ?_
  refine J13 ?_; refine T.again ?_; refine J12 ?_; refine T.again ?_; refine J13 ?_; refine yq10 ?_; refine J4 ?_
  refine J18 ?_; refine T.rounds 2 ?_; refine J13 ?_; refine yq10 ?_; refine J9 ?_; refine yq20 ?_; refine sm ?_; refine T.callV Wanted.none rfl rfl (he2) ?_; refine sa ?_
  refine J13 ?_; refine T.again ?_; refine J12 ?_; refine T.again ?_; refine J12 ?_
  exact T.retF (Lv.fin (RV.tmp2 rfl rfl rfl) rfl)
theorem findText1_fn (h : ExC H ba oa cva bt ot ct bx ox cx br or cr) : Fn Tryz.prog 143 #[exV ba oa cva bt ot ct bx ox cx br or cr, .string bT] H (fun u _ => u = .int .i64 0) := by
  obtain ⟨_, _, hvx, _⟩ := h
  obtain ⟨_, _, e, hsub⟩ := RowL.at (l := [(⟨bT, 0, 2, nilS, []⟩ : Rg)]) encRg_len hvx (i := 0) rfl
  injection e with e
  injection e with e1 e2
  subst e1 e2
  unfold encRg at hsub
  have heq : decide (bT = bT) = true := decide_eq_true rfl
  refine Fn.of_T (vs := [exV ba oa cva bt ot ct bx ox cx br or cr, .string bT]) Tryz.func143 rfl rfl fun w => ?_; refine zs3 ?_; (refine T.box Wanted.none rfl rfl zq15 ?_; intro b2); refine J11 ?_; refine T.rounds 1 ?_; refine J13 ?_; refine yq20 ?_; refine sy fun b6 => ?_; refine sa ?_; refine yq2 ?_; refine J14 ?_
  exact T.retF (Lv.fin (RV.tmp rfl rfl) rfl)
theorem vTxt1_fn (h : ExC H ba oa cva bt ot ct bx ox cx br or cr) : Fn Tryz.prog 89 #[exV ba oa cva bt ot ct bx ox cx br or cr] H (fun u _ => u = .tuple #[.int .i64 0, .int .i64 0]) := by
  have hft := findText1_fn h
  obtain ⟨_, _, hvx, _⟩ := h
  obtain ⟨_, _, e, hsub⟩ := RowL.at (l := [(⟨bT, 0, 2, nilS, []⟩ : Rg)]) encRg_len hvx (i := 0) rfl
  injection e with e
  injection e with e1 e2
  subst e1 e2
  unfold encRg at hsub
  have hvn := validNm_fn bT H nmT
  have hp := pairs0_fn none 0 H
  refine Fn.of_T (vs := [exV ba oa cva bt ot ct bx ox cx br or cr]) Tryz.func89 rfl rfl fun w => ?_; refine zs3 ?_; (refine T.box Wanted.none rfl rfl zq15 ?_; intro b1); refine J41 ?_
  refine J2 ?_; refine T.rounds 2 ?_; refine J13 ?_; refine yq20 ?_; refine sy fun b6 => ?_; refine sa ?_; refine yq2 ?_; refine J7 ?_; refine T.callV Wanted.none rfl rfl (hvn) ?_; refine J9 ?_; refine T.callV Wanted.none rfl rfl (hft) ?_; refine J6 ?_
  refine J43 ?_
  refine J12 ?_; refine T.callV Wanted.none rfl rfl (hp) ?_; refine J19 ?_; refine T.again ?_; refine J12 ?_
  exact T.retF (Lv.fin (RV.tmp2 rfl rfl rfl) rfl)
theorem textAt1_fn (h : ExC H ba oa cva bt ot ct bx ox cx br or cr) : Fn Tryz.prog 150 #[exV ba oa cva bt ot ct bx ox cx br or cr, .int .i64 0] H (fun u _ => u = .int .i64 0) := by
  obtain ⟨_, _, hvx, _⟩ := h
  obtain ⟨_, _, e, hsub⟩ := RowL.at (l := [(⟨bT, 0, 2, nilS, []⟩ : Rg)]) encRg_len hvx (i := 0) rfl
  injection e with e
  injection e with e1 e2
  subst e1 e2
  unfold encRg at hsub
  refine Fn.of_T (vs := [exV ba oa cva bt ot ct bx ox cx br or cr, .int .i64 0]) Tryz.func150 rfl rfl fun w => ?_; refine zs3 ?_; (refine T.box Wanted.none rfl rfl zq15 ?_; intro b2); refine J11 ?_; refine T.rounds 1 ?_; refine J13 ?_; refine yq20 ?_; refine sy fun b6 => ?_; refine sa ?_; refine yq2 ?_; refine J13 ?_
  refine J7 ?_
  exact T.retF (Lv.fin (RV.tmp rfl rfl) rfl)
theorem inText1_fn (h : ExC H ba oa cva bt ot ct bx ox cx br or cr) : Fn Tryz.prog 145 #[exV ba oa cva bt ot ct bx ox cx br or cr, .int .i64 0, .int .i64 1] H (fun u _ => u = .bool true) := by
  have hta := textAt1_fn h
  obtain ⟨_, _, hvx, _⟩ := h
  obtain ⟨_, _, e, hsub⟩ := RowL.at (l := [(⟨bT, 0, 2, nilS, []⟩ : Rg)]) encRg_len hvx (i := 0) rfl
  injection e with e
  injection e with e1 e2
  subst e1 e2
  unfold encRg at hsub
  refine Fn.of_T (vs := [exV ba oa cva bt ot ct bx ox cx br or cr, .int .i64 0, .int .i64 1]) Tryz.func145 rfl rfl fun w => ?_; refine zs3 ?_; (refine T.box Wanted.none rfl rfl zq15 ?_; intro b3); refine J6 ?_; refine T.callV Wanted.none rfl rfl (hta) ?_; refine J18 ?_; refine gv (PV.loadSub rfl zA rfl) ?_; refine J4 ?_
  exact T.retF (Lv.fin (RV.tmp rfl rfl) rfl)
theorem vReg1_fn (h : ExC H ba oa cva bt ot ct bx ox cx br or cr) : Fn Tryz.prog 90 #[exV ba oa cva bt ot ct bx ox cx br or cr] H (fun u _ => u = .tuple #[.int .i64 0, .int .i64 0]) := by
  have hin := inText1_fn h
  obtain ⟨_, _, _, ad, cap, hvr⟩ := h
  obtain ⟨_, _, e, hsub⟩ := RowL.at (l := [(⟨bS, 0, 1, .slice ad 0 cap, []⟩ : Rg)]) encRg_len hvr (i := 0) rfl
  injection e with e
  injection e with e1 e2
  subst e1 e2
  unfold encRg at hsub
  have hvn := validNm_fn bS H nmS
  have hp := pairs0_fn ad cap H
  refine Fn.of_T (vs := [exV ba oa cva bt ot ct bx ox cx br or cr]) Tryz.func90 rfl rfl fun w => ?_; refine zs3 ?_; (refine T.box Wanted.none rfl rfl zq15 ?_; intro b1); refine J26 ?_; refine T.rounds 2 ?_; refine J13 ?_; refine yq20 ?_; refine sy fun b6 => ?_
  refine sa ?_; refine yq2 ?_; refine J7 ?_; refine T.callV Wanted.none rfl rfl (hvn) ?_; refine J11 ?_; refine T.callV Wanted.none rfl rfl (hin) ?_; refine J11 ?_; refine T.callV Wanted.none rfl rfl (hp) ?_; refine J11 ?_
  refine yq70 ?_; refine I14 ?_; refine J14 ?_; refine T.rounds 1 ?_; refine J14 ?_
  refine T.block ?_; refine T.rounds 1 ?_; refine J11 ?_; (refine T.buildSlice Wanted.none rfl rfl zq11 zX zX ?_; intro b97); (refine T.appendP (lv := []) Wanted.none rfl rfl rfl (Vec.nil 110 4) (Src.cells (m := 1) (ys := [.string bS, .int .i64 0, .int .i64 1, .slice ad 0 cap]) (.own zq2) rfl rfl) (by intro v hv; simp at hv; rcases hv with rfl | rfl | rfl | rfl <;> rfl) zO zq1 ?_; intro v98 lv98 hv98 _; obtain ⟨ad98, cap98, rfl⟩ := hv98.val); refine J15 ?_; refine T.again ?_; refine J12 ?_
  exact T.retF (Lv.fin (RV.tmp2 rfl rfl rfl) rfl)
end

end Go.Proofs.YtecogbhbkccblaaGreatDoor
namespace Go.Proofs.YtecogbhbkccblaaGreatDoor
open Go.RowKit


section
variable {P : Program} {X : Cx} {e : Env} {l : List (Nat × Obj)} {H : Hp} {D : List Deferred} {k : List It}
theorem T.callVX {all : Array Oper} {rest : List Oper} {ty : TypeId} {pos : String} {after : Array Edge} {gd : Option (Nat × Bool)} {d : Nat} {f : FuncId} [hE : Ent P f] {x : Operand} {xs : List Operand} {ts : Array TypeId} {vs : List Value} {v : Value} (hw : Wanted e all ⟨some d, .call ⟨.value x, xs.toArray, ts⟩, ty, pos, after, gd⟩) (hN : Nat.blt d X.N = true)
    (hx : evE e x = some (.func (.func f) #[] #[])) (hv : evL e xs = some vs) (hf : Fn P f vs.toArray H (fun u _ => u = v)) (hb : X.H0.le H) (h : T P X ((d, v) :: e) l H D (.ops all rest :: k)) :
    T P X e l H D (.ops all (⟨some d, .call ⟨.value x, xs.toArray, ts⟩, ty, pos, after, gd⟩ :: rest) :: k) :=
  T.callF (cap := []) hw hN hx hv (by rw [List.append_nil]; exact hf) fun u H' hle hu => by subst hu; exact T.forget hle h hb
end
theorem validate0_fn (ba oa cva : Nat) (H : Hp) (hva : SlR H 2 (.slice (some ⟨ba, oa, none⟩) 1 cva) 1 [.string bWord, .bool false]) :
    Fn Tryz.prog 51 #[.agg #[.slice (some ⟨ba, oa, none⟩) 1 cva, nilS, nilS, nilS, nilS, nilS, nilS]] H (fun u _ => u = .tuple #[.int .i64 0, .int .i64 0, .int .i64 0]) := by
  have h1 := vAttr_fn none none none ba oa cva 0 0 0 0 0 0 H hva
  have h2 := vTok0_fn (some ⟨ba, oa, none⟩) none none 1 cva 0 0 0 0 H
  have h3 := vTxt0_fn (some ⟨ba, oa, none⟩) none 1 cva 0 0 H
  have h4 := vReg0_fn (some ⟨ba, oa, none⟩) none none 1 cva 0 0 0 0 H
  have h5 := vNod0_fn (some ⟨ba, oa, none⟩) none none none 1 cva 0 0 0 0 0 0 H
  have h6 := vHd0_fn (some ⟨ba, oa, none⟩) none none none 1 cva 0 0 0 0 0 0 H
  refine Fn.of_T (vs := [.agg #[.slice (some ⟨ba, oa, none⟩) 1 cva, nilS, nilS, nilS, nilS, nilS, nilS]]) Tryz.func51 rfl rfl fun w => ?_; refine zs3 ?_; (refine T.box Wanted.none rfl rfl zq15 ?_; intro b1); refine J6 ?_; (refine T.buildSlice Wanted.none rfl rfl zq11 zX zX ?_; intro b10); refine J10 ?_; refine T.rounds 7 ?_; refine J21 ?_; (refine T.callVX Wanted.none rfl rfl rfl (by exact h1) (Hp.le.refl _) ?_); refine J4 ?_
  refine J14 ?_; refine T.again ?_; refine J21 ?_; (refine T.callVX Wanted.none rfl rfl rfl (by exact h2) (Hp.le.refl _) ?_); refine J11 ?_
  refine J7 ?_; refine T.again ?_; refine J21 ?_; (refine T.callVX Wanted.none rfl rfl rfl (by exact h3) (Hp.le.refl _) ?_); refine J16 ?_
  refine J2 ?_; refine T.again ?_; refine J21 ?_; (refine T.callVX Wanted.none rfl rfl rfl (by exact h4) (Hp.le.refl _) ?_); refine J18 ?_; refine T.again ?_; refine J3 ?_
  refine J18 ?_; (refine T.callVX Wanted.none rfl rfl rfl (by exact h5) (Hp.le.refl _) ?_); refine J18 ?_; refine T.again ?_; refine J8 ?_
  refine J13 ?_; (refine T.callVX Wanted.none rfl rfl rfl (by exact h6) (Hp.le.refl _) ?_); refine J18 ?_; refine T.again ?_; refine J13 ?_
  exact T.retF (Lv.fin (RV.tmp3 rfl rfl rfl rfl) rfl)
theorem validate1_fn {H : Hp} {ba oa cva bt ot ct bx ox cx br or cr : Nat} (h : ExC H ba oa cva bt ot ct bx ox cx br or cr) : Fn Tryz.prog 51 #[exV ba oa cva bt ot ct bx ox cx br or cr] H (fun u _ => u = .tuple #[.int .i64 0, .int .i64 0, .int .i64 0]) := by
  have h1 := vAttr_fn (some ⟨bt, ot, none⟩) (some ⟨bx, ox, none⟩) (some ⟨br, or, none⟩) ba oa cva 2 ct 1 cx 1 cr H h.va
  have h2 := vTok2_fn h
  have h3 := vTxt1_fn h
  have h4 := vReg1_fn h
  have h5 := vNod0_fn (some ⟨ba, oa, none⟩) (some ⟨bt, ot, none⟩) (some ⟨bx, ox, none⟩) (some ⟨br, or, none⟩) 1 cva 2 ct 1 cx 1 cr H
  have h6 := vHd0_fn (some ⟨ba, oa, none⟩) (some ⟨bt, ot, none⟩) (some ⟨bx, ox, none⟩) (some ⟨br, or, none⟩) 1 cva 2 ct 1 cx 1 cr H
  refine Fn.of_T (vs := [exV ba oa cva bt ot ct bx ox cx br or cr]) Tryz.func51 rfl rfl fun w => ?_; refine zs3 ?_; (refine T.box Wanted.none rfl rfl zq15 ?_; intro b1); refine J6 ?_; (refine T.buildSlice Wanted.none rfl rfl zq11 zX zX ?_; intro b10); refine J10 ?_; refine T.rounds 7 ?_; refine J21 ?_; (refine T.callVX Wanted.none rfl rfl rfl (by exact h1) (Hp.le.refl _) ?_); refine J4 ?_
  refine J14 ?_; refine T.again ?_; refine J21 ?_; (refine T.callVX Wanted.none rfl rfl rfl (by exact h2) (Hp.le.refl _) ?_); refine J11 ?_
  refine J7 ?_; refine T.again ?_; refine J21 ?_; (refine T.callVX Wanted.none rfl rfl rfl (by exact h3) (Hp.le.refl _) ?_); refine J16 ?_
  refine J2 ?_; refine T.again ?_; refine J21 ?_; (refine T.callVX Wanted.none rfl rfl rfl (by exact h4) (Hp.le.refl _) ?_); refine J18 ?_; refine T.again ?_; refine J3 ?_
  refine J18 ?_; (refine T.callVX Wanted.none rfl rfl rfl (by exact h5) (Hp.le.refl _) ?_); refine J18 ?_; refine T.again ?_; refine J8 ?_
  refine J13 ?_; (refine T.callVX Wanted.none rfl rfl rfl (by exact h6) (Hp.le.refl _) ?_); refine J18 ?_; refine T.again ?_; refine J13 ?_
  exact T.retF (Lv.fin (RV.tmp3 rfl rfl rfl rfl) rfl)
theorem checkAtt_fn (ba oa cva : Nat) (H : Hp) (hva : SlR H 2 (.slice (some ⟨ba, oa, none⟩) 1 cva) 1 [.string bWord, .bool false]) :
    Fn Tryz.prog 82 #[.slice (some ⟨ba, oa, none⟩) 1 cva] H (fun u _ => u = .bool true) := by
  have hv := validate0_fn ba oa cva H hva
  refine Fn.of_T (vs := [.slice (some ⟨ba, oa, none⟩) 1 cva]) Tryz.func82 rfl rfl fun w => ?_; refine J7 ?_; refine yq39 ?_; refine T.callV Wanted.none rfl rfl (hv) ?_; refine J18 ?_
  exact T.retF (Lv.fin (RV.tmp rfl rfl) rfl)

end Go.Proofs.YtecogbhbkccblaaGreatDoor
