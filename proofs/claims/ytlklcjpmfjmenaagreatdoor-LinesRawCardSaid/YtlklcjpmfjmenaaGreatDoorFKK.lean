/- lines: the library's insertion sort and its stable sort of a short list. -/
import Derived.Test.YtlklcjpmfjmenaaGreatDoorFKJ
import Derived.Test.YtlklcjpmfjmenaaGreatDoorFKS
namespace Go.Proofs.YtlklcjpmfjmenaaGreatDoor
open Go.RowKit

section
variable {P : Program} {X : Cx} {e : Env} {l : List (Nat × Obj)} {H : Hp} {D : List Deferred} {k : List It} {ty : TypeId} {pos : String} {after : Array Edge} {gd : Option (Nat × Bool)} {all : Array Oper} {rest : List Oper}
/-- A call of a function value of whose result alone something is known. -/
theorem T.callFX {d : Nat} {f : FuncId} [hE : Ent P f] {x : Operand} {xs : List Operand} {ts : Array TypeId} {vs cap : List Value} {R : Value → Prop} (hw : Wanted e all ⟨some d, .call ⟨.value x, xs.toArray, ts⟩, ty, pos, after, gd⟩) (hN : Nat.blt d X.N = true)
    (hx : evE e x = some (.func (.func f) #[] cap.toArray)) (hv : evL e xs = some vs) (hf : Fn P f (vs ++ cap).toArray H (fun u _ => R u))
    (h : ∀ v, R v → T P X ((d, v) :: e) l H D (.ops all rest :: k)) :
    T P X e l H D (.ops all (⟨some d, .call ⟨.value x, xs.toArray, ts⟩, ty, pos, after, gd⟩ :: rest) :: k) := T.mk fun a w ha hw' => by
  refine wpList_cons (hw.get X D a ha) ?_
  have hrun : (execOp a.eval ⟨some d, .call ⟨.value x, xs.toArray, ts⟩, ty, pos, after, gd⟩).run P w = .ok (.enter f (vs ++ cap).toArray) w := by
    have := evL_map ha xs vs hv
    have hE' := hE.h (vs ++ cap).toArray w
    simp [execOp, resolve, ha.eval hx, Deferred.ofValue, invoke, List.map_toArray, this]
    simpa using hE'
  rw [run_semAt hrun (fun _ => by simp), Oper.uponIn_enter]
  refine ⟨fun hd => by simp [Fw, Fence.wide] at hd, ?_⟩
  have hc : CallsIn (Fw X.ro) 0 P f (vs ++ cap).toArray w (FnR w H (fun u _ => R u)) := hf.get w hw'.fro
  refine hc.mono ?_
  rintro en w' ⟨u, H', rfl, h2, h3, h4, h5⟩
  exact (h _ h5).get _ w' (ha.put (by simpa using hN) u) (hw'.callV h4)
end
theorem splice5 {a b c d f a' b' c' d' f' : Value} {pre post : List Value} {n : Nat} (hn : pre.length = n) : Splice (pre ++ ([a, b, c, d, f] ++ post)) n [a', b', c', d', f'] (pre ++ ([a', b', c', d', f'] ++ post)) := by
  subst hn
  induction pre with
  | nil => exact .cons (.cons (.cons (.cons (.cons .nil))))
  | cons p pre ih => exact .skip ih
theorem splice5b {a b c d f x1 x2 x3 x4 x5 a' b' c' d' f' : Value} {pre post : List Value} {n : Nat} (hn : pre.length + 5 = n) : Splice (pre ++ ([x1, x2, x3, x4, x5] ++ ([a, b, c, d, f] ++ post))) n [a', b', c', d', f'] (pre ++ ([x1, x2, x3, x4, x5] ++ ([a', b', c', d', f'] ++ post))) := by
  have h := splice5 (a := a) (b := b) (c := c) (d := d) (f := f) (a' := a') (b' := b') (c' := c') (d' := d') (f' := f') (pre := pre ++ [x1, x2, x3, x4, x5]) (post := post) (n := n) (by simpa using hn)
  rw [List.append_assoc, List.append_assoc] at h
  exact h
structure InG where
  i : Nat
  lv : List (Nat × Obj)
structure IjG where
  j : Nat
  lv : List (Nat × Obj)
set_option maxHeartbeats 4000000 in
theorem insSort_fn (l : List Kr) (n : Nat) (v : Value) (lv : List (Nat × Obj)) (H : Hp) (hv : RowV 79 encKr 5 v lv l) (hok : ∀ x ∈ l, KrOk H n x) (hl : l.length ≤ 1000000) (cmp : Kr → Kr → Int) (gf : FuncId) [hE : Ent Tryz.prog gf] (cap : List Value)
    (hg : ∀ x ∈ l, ∀ y ∈ l, Fn Tryz.prog gf (krV x :: krV y :: cap).toArray H (fun u _ => u = .int .i64 (cmp x y))) :
    FnW Tryz.prog 100 #[v, .int .i64 0, .int .i64 (l.length : Int), .func (.func gf) #[] cap.toArray] H lv (fun u H' l' => u = .tuple #[] ∧ H' = H ∧ RowV 79 encKr 5 v l' (sortK (fun a b => decide (cmp a b < 0)) l)) := by
  obtain ⟨adv, capv, rfl⟩ := hv.val
  refine FnW.of_T (vs := [.slice adv l.length capv, .int .i64 0, .int .i64 (l.length : Int), .func (.func gf) #[] cap.toArray]) Tryz.func100 rfl rfl fun w => ?_
  refine sq ?_
  refine sr ?_
  refine sm ?_
  refine sv (PV.add rfl rfl (by omega)) ?_
  refine sa ?_
  refine so ?_
  refine T.block ?_
  refine T.loopK [(0, Value.slice adv l.length capv), (1, Value.int IntKind.i64 0), (2, Value.int IntKind.i64 (↑l.length : Int)), (3, Value.func (Fn.func gf) #[] cap.toArray)] zq8 (γ := InG) (fun g => 1 ≤ g.i ∧ RowV 79 encKr 5 (.slice adv l.length capv) g.lv (sortK (fun a b => decide (cmp a b < 0)) (l.take g.i) ++ l.drop g.i)) (fun g => [(8, .int .i64 (g.i : Int))]) (fun g => g.lv) (fun _ => H) (fun g => l.length - g.i) ⟨1, lv⟩ ⟨Nat.le_refl 1, by dsimp only; rw [sortK_first]; exact hv⟩ zq8 (by repeat (first | exact Sel.refl _ | exact Sel.nil | (refine Sel.cons zq1 ?_) | (refine Sel.app zq1 ?_) | exact Sel.one zq1)) rfl ?_
  rintro ⟨i, lv1⟩ ⟨g1, g2⟩
  dsimp only at g1 g2 ⊢
  by_cases hi : i < l.length
  · obtain ⟨x, hx⟩ : ∃ x, l[i]? = some x := ⟨_, List.getElem?_eq_getElem hi⟩
    obtain ⟨A, hA⟩ : ∃ A, A = sortK (fun a b => decide (cmp a b < 0)) (l.take i) := ⟨_, rfl⟩
    obtain ⟨R, hR⟩ : ∃ R, R = l.drop (i + 1) := ⟨_, rfl⟩
    have hAl : A.length = i := by rw [hA, sortK_length, List.length_take]; omega
    have hAm : ∀ y ∈ A, y ∈ l := fun y hy => List.mem_of_mem_take ((sortK_perm _ _).mem_iff.1 (hA ▸ hy))
    have hxm := List.mem_of_getElem? hx
    have hst : sortK (fun a b => decide (cmp a b < 0)) (l.take (i + 1)) ++ l.drop (i + 1) = insE (fun a b => decide (cmp a b < 0)) A x ++ R := by
      rw [List.take_add_one, hx, ← hR]
      show sortK _ (l.take i ++ [x]) ++ R = _
      rw [sortK_snoc, ← hA]
    have hdr : l.drop i = x :: R := by rw [List.drop_eq_getElem_cons hi, (List.getElem?_eq_some_iff.1 hx).2, hR]
    rw [← hA, hdr] at g2
    obtain ⟨ax, cx, hxv⟩ := (hok x hxm).1.1.len
    obtain ⟨ax2, cx2, hxk⟩ := (hok x hxm).2.1.len
    refine sq ?_
    refine sq ?_
    refine sr ?_
    refine sm ?_
    refine sm ?_
    refine sv (PV.lss rfl rfl) ?_
    refine so ?_
    refine sc rfl (by omega) ?_
    refine T.skip ?_
    refine sq ?_
    refine T.block ?_
    refine sq ?_
    refine sr ?_
    refine sm ?_
    refine sa ?_
    refine so ?_
    refine T.block ?_
    refine T.loopK [(8, Value.int IntKind.i64 (↑i : Int)), (0, Value.slice adv l.length capv), (1, Value.int IntKind.i64 0), (2, Value.int IntKind.i64 (↑l.length : Int)), (3, Value.func (Fn.func gf) #[] cap.toArray)] zq8 (γ := IjG) (fun g => g.j ≤ A.length ∧ insK (fun a b => decide (cmp a b < 0)) A x A.length = insK (fun a b => decide (cmp a b < 0)) A x g.j ∧ RowV 79 encKr 5 (.slice adv l.length capv) g.lv (A.take g.j ++ x :: (A.drop g.j ++ R))) (fun g => [(9, .int .i64 (g.j : Int))]) (fun g => g.lv) (fun _ => H) (fun g => g.j) ⟨i, lv1⟩ ⟨Nat.le_of_eq hAl.symm, by dsimp only; rw [hAl], by dsimp only; rw [← hAl, List.take_length, List.drop_length]; exact g2⟩ zq8 (by repeat (first | exact Sel.refl _ | exact Sel.nil | (refine Sel.cons zq1 ?_) | (refine Sel.app zq1 ?_) | exact Sel.one zq1)) rfl ?_
    rintro ⟨j, lv2⟩ ⟨j1, j2, j3⟩
    dsimp only at j1 j2 j3 ⊢
    cases j with
    | zero =>
      refine sq ?_
      refine sq ?_
      refine T.regionQ (by kernel_rfl) ?_
      refine TQ.pv (PV.move rfl) Wanted.none rfl rfl ?_
      refine TQ.pv (PV.move rfl) Wanted.none rfl rfl ?_
      refine TQ.pv (PV.gtr rfl rfl) Wanted.none rfl rfl ?_
      refine TQ.pv (PV.move rfl) Wanted.none rfl rfl ?_
      refine TQ.pass (Unwanted.guard rfl rfl rfl) rfl rfl ?_
      refine TQ.pass (Unwanted.guard rfl rfl rfl) rfl rfl ?_
      refine TQ.pass (Unwanted.guard rfl rfl rfl) rfl rfl ?_
      refine TQ.pass (Unwanted.guard rfl rfl rfl) rfl rfl ?_
      refine TQ.pass (Unwanted.guard rfl rfl rfl) rfl rfl ?_
      refine TQ.pass (Unwanted.guard rfl rfl rfl) rfl rfl ?_
      refine TQ.pass (Unwanted.guard rfl rfl rfl) rfl rfl ?_
      refine TQ.pass (Unwanted.guard rfl rfl rfl) rfl rfl ?_
      refine TQ.pass (Unwanted.guard rfl rfl rfl) rfl rfl ?_
      refine TQ.pass (Unwanted.guard rfl rfl rfl) rfl rfl ?_
      refine TQ.pass (Unwanted.guard rfl rfl rfl) rfl rfl ?_
      refine TQ.pass (Unwanted.guard rfl rfl rfl) rfl rfl ?_
      refine TQ.pv (PV.pickF rfl rfl rfl) Wanted.none rfl rfl ?_
      refine TQ.nil ?_
      refine T.condF rfl rfl ?_
      refine T.exit rfl ?_
      refine T.blkEnd ?_
      refine sr ?_
      refine sm ?_
      refine sv (PV.add rfl rfl (by omega)) ?_
      refine sa ?_
      refine so ?_
      have hfin : RowV 79 encKr 5 (.slice adv l.length capv) lv2 (sortK (fun a b => decide (cmp a b < 0)) (l.take (i + 1)) ++ l.drop (i + 1)) := by
        rw [hst, insE, j2]
        simpa [insK] using j3
      exact T.nextP ⟨i + 1, lv2⟩ ⟨by dsimp only; omega, hfin⟩ (by dsimp only; omega) zq8 (by repeat (first | exact Sel.refl _ | exact Sel.nil | (refine Sel.cons zq1 ?_) | (refine Sel.app zq1 ?_) | exact Sel.one zq1)) rfl
    | succ j0 =>
      obtain ⟨y, hy⟩ : ∃ y, A[j0]? = some y := ⟨_, List.getElem?_eq_getElem (by omega)⟩
      have hym := hAm y (List.mem_of_getElem? hy)
      obtain ⟨ay, cy, hyv⟩ := (hok y hym).1.1.len
      obtain ⟨ay2, cy2, hyk⟩ := (hok y hym).2.1.len
      have hcall := hg x hxm y hym
      have hsp : A.take (j0 + 1) ++ x :: (A.drop (j0 + 1) ++ R) = A.take j0 ++ y :: (x :: (A.drop (j0 + 1) ++ R)) := by
        rw [List.take_add_one, hy]; simp
      have hsp2 : A.take j0 ++ x :: (A.drop j0 ++ R) = A.take j0 ++ x :: (y :: (A.drop (j0 + 1) ++ R)) := by
        have h := List.getElem?_eq_some_iff.1 hy
        rw [List.drop_eq_getElem_cons h.1, h.2]; rfl
      have htl : (A.take j0).length = j0 := by rw [List.length_take]; omega
      have hpl : ((A.take j0).flatMap encKr).length = j0 * 5 := by rw [flat_len encKr_len, htl]
      rw [hsp] at j3
      have hne : (A.take j0 ++ y :: (x :: (A.drop (j0 + 1) ++ R))).flatMap encKr ≠ [] := by intro h; have := congrArg List.length h; rw [flat_len encKr_len] at this; simp at this
      have hdl : (A.take j0 ++ y :: (x :: (A.drop (j0 + 1) ++ R))).length = l.length := by
        rw [← hsp]
        have : R.length = l.length - (i + 1) := by rw [hR, List.length_drop]
        simp only [List.length_append, List.length_take, List.length_cons, List.length_drop]
        omega
      obtain ⟨bm, capm, hve⟩ := j3.ptr (by rw [hdl]; omega)
      injection hve with e1 e2 e3
      subst e1 e3
      obtain ⟨_, r1, r2, tl, rfl, r3⟩ := j3.row hne
      have gy := getRow encKr_len tl (show (A.take j0 ++ y :: (x :: (A.drop (j0 + 1) ++ R)))[j0]? = some y by rw [List.getElem?_append_right (by omega), htl, Nat.sub_self]; rfl)
      have gx := getRow encKr_len tl (show (A.take j0 ++ y :: (x :: (A.drop (j0 + 1) ++ R)))[j0 + 1]? = some x by rw [List.getElem?_append_right (by omega), htl, Nat.add_sub_cancel_left]; rfl)
      have hflat : (A.take j0 ++ y :: (x :: (A.drop (j0 + 1) ++ R))).flatMap encKr ++ tl = (A.take j0).flatMap encKr ++ (encKr y ++ (encKr x ++ ((A.drop (j0 + 1) ++ R).flatMap encKr ++ tl))) := by simp
      rw [show ((j0 : Nat) : Int) = ((j0 + 1 : Nat) : Int) - 1 by omega] at gy
      unfold krV at hcall
      have hxE : encKr x = [.int .i64 x.m.b, .int .i64 x.m.e, .slice ax x.m.ls.length cx, .int .i64 x.at_, .slice ax2 x.ks.length cx2] := by unfold encKr; rw [hxv, hxk]
      have hyE : encKr y = [.int .i64 y.m.b, .int .i64 y.m.e, .slice ay y.m.ls.length cy, .int .i64 y.at_, .slice ay2 y.ks.length cy2] := by unfold encKr; rw [hyv, hyk]
      rw [hxv, hxk, hyv, hyk] at hcall
      rw [hxE] at gx
      rw [hyE] at gy
      rw [hflat, hxE, hyE] at gx gy j3 ⊢
      have hpc : ∀ cs : List Value, cs = (A.take j0 ++ x :: (A.drop j0 ++ R)).flatMap encKr ++ tl → RowV 79 encKr 5 (.slice (some ⟨bm, 0, none⟩) l.length capv) [(bm, .cells cs.toArray 79 (0, 0))] (A.take j0 ++ x :: (A.drop j0 ++ R)) := by
        intro cs hcs
        have hdl2 : (A.take j0 ++ x :: (A.drop j0 ++ R)).length = l.length := by
          have : R.length = l.length - (i + 1) := by rw [hR, List.length_drop]
          simp only [List.length_append, List.length_take, List.length_cons, List.length_drop]
          omega
        have e2 := flat_len encKr_len (A.take j0 ++ x :: (A.drop j0 ++ R))
        have e3 : cs.length = capv * 5 := by rw [← r3, hcs, List.length_append, List.length_append, e2, flat_len encKr_len, hdl, hdl2]
        exact ⟨e2, .inr ⟨bm, capv, cs, by rw [hdl2], rfl, by rw [hdl2, ← hdl]; exact r1, r2, e3, by rw [hcs, ← e2, List.take_left]⟩⟩
      have hflat2 : (A.take j0 ++ x :: (A.drop j0 ++ R)).flatMap encKr ++ tl = (A.take j0).flatMap encKr ++ ([.int .i64 x.m.b, .int .i64 x.m.e, .slice ax x.m.ls.length cx, .int .i64 x.at_, .slice ax2 x.ks.length cx2] ++ ([.int .i64 y.m.b, .int .i64 y.m.e, .slice ay y.m.ls.length cy, .int .i64 y.at_, .slice ay2 y.ks.length cy2] ++ ((A.drop (j0 + 1) ++ R).flatMap encKr ++ tl))) := by rw [hsp2, ← hxE, ← hyE]; simp
      generalize hQ : (A.drop (j0 + 1) ++ R).flatMap encKr ++ tl = Q at *
      generalize hPe : (A.take j0).flatMap encKr = Pr at *
      have hj0 : decide ((0 : Int) < ((j0 + 1 : Nat) : Int)) = true := decide_eq_true (by omega)
      by_cases hlt : cmp x y < 0
      · skip
        (repeat refine sq ?_)
        refine T.regionOl (by kernel_rfl) ?_
        refine TO.take 0 rfl (by kernel_rfl) (by kernel_rfl) (by kernel_rfl) (PV.move rfl) Wanted.none rfl rfl ?_
        refine TO.take 1 rfl (by kernel_rfl) (by kernel_rfl) (by kernel_rfl) (PV.move rfl) Wanted.none rfl rfl ?_
        refine TO.take 2 rfl (by kernel_rfl) (by kernel_rfl) (by kernel_rfl) (PV.gtr rfl rfl) Wanted.none rfl rfl ?_
        refine TO.take 3 rfl (by kernel_rfl) (by kernel_rfl) (by kernel_rfl) (PV.move rfl) Wanted.none rfl rfl ?_
        refine TO.take 4 rfl (by kernel_rfl) (by kernel_rfl) (by kernel_rfl) (PV.move rfl) (Wanted.guard rfl rfl (by assumption)) rfl rfl ?_
        refine TO.take 5 rfl (by kernel_rfl) (by kernel_rfl) (by kernel_rfl) (PV.move rfl) (Wanted.guard rfl rfl (by assumption)) rfl rfl ?_
        refine TO.take 6 rfl (by kernel_rfl) (by kernel_rfl) (by kernel_rfl) (PV.move rfl) (Wanted.guard rfl rfl (by assumption)) rfl rfl ?_
        refine TO.take 7 rfl (by kernel_rfl) (by kernel_rfl) (by kernel_rfl) (PV.indexAddr rfl rfl (by omega)) (Wanted.guard rfl rfl (by assumption)) rfl rfl ?_
        refine TO.take 8 rfl (by kernel_rfl) (by kernel_rfl) (by kernel_rfl) (PV.loadAgg rfl zq0 (by assumption) (by exact rfl)) (Wanted.guard rfl rfl (by assumption)) rfl rfl ?_
        refine TO.take 9 rfl (by kernel_rfl) (by kernel_rfl) (by kernel_rfl) (PV.move rfl) (Wanted.guard rfl rfl (by assumption)) rfl rfl ?_
        refine TO.take 10 rfl (by kernel_rfl) (by kernel_rfl) (by kernel_rfl) (PV.move rfl) (Wanted.guard rfl rfl (by assumption)) rfl rfl ?_
        refine TO.take 11 rfl (by kernel_rfl) (by kernel_rfl) (by kernel_rfl) (PV.sub rfl rfl (by omega)) (Wanted.guard rfl rfl (by assumption)) rfl rfl ?_
        refine TO.take 12 rfl (by kernel_rfl) (by kernel_rfl) (by kernel_rfl) (PV.indexAddr rfl rfl (by omega)) (Wanted.guard rfl rfl (by assumption)) rfl rfl ?_
        refine TO.take 13 rfl (by kernel_rfl) (by kernel_rfl) (by kernel_rfl) (PV.loadAgg rfl zq0 (by assumption) (by exact rfl)) (Wanted.guard rfl rfl (by assumption)) rfl rfl ?_
        refine TO.step 14 rfl (by kernel_rfl) zq4 zq17 ?_
        (refine T.callFX (cap := cap) (Wanted.guard rfl rfl (by assumption)) rfl rfl rfl (by exact hcall) ?_; rintro _ rfl)
        refine so ?_
        refine TO.back ?_
        refine TO.take 15 rfl (by kernel_rfl) (by kernel_rfl) (by kernel_rfl) (PV.lss rfl rfl) (Wanted.guard rfl rfl (by assumption)) rfl rfl ?_
        refine TO.take 16 rfl (by kernel_rfl) (by kernel_rfl) (by kernel_rfl) (PV.pickT rfl (by assumption) rfl) Wanted.none rfl rfl ?_
        refine TO.done (by kernel_rfl) zq4 zq17 ?_
        refine sc rfl (by omega) ?_
        refine T.skip ?_
        refine sq ?_
        refine T.block ?_
        (repeat refine sq ?_)
        have hins : insK (fun a b => decide (cmp a b < 0)) A x (j0 + 1) = insK (fun a b => decide (cmp a b < 0)) A x j0 := by
          rw [insK, hy]; simp [hlt]
        refine T.regionS [] 17 (by kernel_rfl) ?_
        refine TS.take 0 rfl (by kernel_rfl) (by kernel_rfl) (by kernel_rfl) (by kernel_rfl) (PV.move rfl) Wanted.none rfl rfl ?_
        refine TS.take 1 rfl (by kernel_rfl) (by kernel_rfl) (by kernel_rfl) (by kernel_rfl) (PV.move rfl) Wanted.none rfl rfl ?_
        refine TS.take 2 rfl (by kernel_rfl) (by kernel_rfl) (by kernel_rfl) (by kernel_rfl) (PV.move rfl) Wanted.none rfl rfl ?_
        refine TS.take 3 rfl (by kernel_rfl) (by kernel_rfl) (by kernel_rfl) (by kernel_rfl) (PV.move rfl) Wanted.none rfl rfl ?_
        refine TS.take 4 rfl (by kernel_rfl) (by kernel_rfl) (by kernel_rfl) (by kernel_rfl) (PV.sub rfl rfl (by omega)) Wanted.none rfl rfl ?_
        refine TS.take 5 rfl (by kernel_rfl) (by kernel_rfl) (by kernel_rfl) (by kernel_rfl) (PV.move rfl) Wanted.none rfl rfl ?_
        refine TS.take 6 rfl (by kernel_rfl) (by kernel_rfl) (by kernel_rfl) (by kernel_rfl) (PV.move rfl) Wanted.none rfl rfl ?_
        refine TS.take 7 rfl (by kernel_rfl) (by kernel_rfl) (by kernel_rfl) (by kernel_rfl) (PV.sub rfl rfl (by omega)) Wanted.none rfl rfl ?_
        refine TS.take 8 rfl (by kernel_rfl) (by kernel_rfl) (by kernel_rfl) (by kernel_rfl) (PV.indexAddr rfl rfl (by omega)) Wanted.none rfl rfl ?_
        refine TS.take 10 rfl (by kernel_rfl) (by kernel_rfl) (by kernel_rfl) (by kernel_rfl) (PV.move rfl) Wanted.none rfl rfl ?_
        refine TS.take 11 rfl (by kernel_rfl) (by kernel_rfl) (by kernel_rfl) (by kernel_rfl) (PV.move rfl) Wanted.none rfl rfl ?_
        refine TS.take 12 rfl (by kernel_rfl) (by kernel_rfl) (by kernel_rfl) (by kernel_rfl) (PV.indexAddr rfl rfl (by omega)) Wanted.none rfl rfl ?_
        refine TS.ways [9, 13] (by kernel_rfl) rfl zq18 ⟨⟨_, rfl, ?_⟩, ⟨_, rfl, ?_⟩, trivial⟩
        · refine sv (PV.loadAgg rfl zq0 (by assumption) (by exact rfl)) ?_
          refine so ?_
          refine TS.back ?_
          refine TS.ways [13] (by kernel_rfl) rfl zq18 ⟨⟨_, rfl, ?_⟩, trivial⟩
          refine sv (PV.loadAgg rfl zq0 (by assumption) (by exact rfl)) ?_
          refine so ?_
          refine TS.back ?_
          refine TS.take 14 rfl (by kernel_rfl) (by kernel_rfl) (by kernel_rfl) (by kernel_rfl) (PV.indexAddr rfl rfl (by omega)) Wanted.none rfl rfl ?_
          refine TS.ways [15] (by kernel_rfl) rfl zq18 ⟨⟨_, rfl, ?_⟩, trivial⟩
          (refine T.storeA Wanted.none rfl rfl ⟨rfl, rfl, rfl, rfl, rfl, trivial⟩ (by exact rfl) .head (splice5b (by rw [hpl]; omega)) ?_)
          refine so ?_
          refine TS.back ?_
          refine TS.take 16 rfl (by kernel_rfl) (by kernel_rfl) (by kernel_rfl) (by kernel_rfl) (PV.indexAddr rfl rfl (by omega)) Wanted.none rfl rfl ?_
          refine TS.ways [17] (by kernel_rfl) rfl zq18 ⟨⟨_, rfl, ?_⟩, trivial⟩
          (refine T.storeA Wanted.none rfl rfl ⟨rfl, rfl, rfl, rfl, rfl, trivial⟩ (by exact rfl) .head (splice5 (by rw [hpl]; omega)) ?_)
          refine so ?_
          refine TS.back ?_
          refine TS.done (by kernel_rfl) (by kernel_rfl) ?_
          refine T.blkEnd ?_
          refine sr ?_
          refine sm ?_
          refine sv (PV.sub rfl rfl (by omega)) ?_
          refine sa ?_
          refine so ?_
          ((rw [show ((j0 + 1 : Nat) : Int) - 1 = (j0 : Int) by omega]; exact T.nextP ⟨j0, _⟩ ⟨by dsimp only; omega, by dsimp only; rw [j2, hins], hpc _ hflat2.symm⟩ (by dsimp only; omega) zq8 (by repeat (first | exact Sel.refl _ | exact Sel.nil | (refine Sel.cons zq1 ?_) | (refine Sel.app zq1 ?_) | exact Sel.one zq1)) rfl))
        · refine sv (PV.loadAgg rfl zq0 (by assumption) (by exact rfl)) ?_
          refine so ?_
          refine TS.back ?_
          refine TS.ways [9] (by kernel_rfl) rfl zq18 ⟨⟨_, rfl, ?_⟩, trivial⟩
          refine sv (PV.loadAgg rfl zq0 (by assumption) (by exact rfl)) ?_
          refine so ?_
          refine TS.back ?_
          refine TS.take 14 rfl (by kernel_rfl) (by kernel_rfl) (by kernel_rfl) (by kernel_rfl) (PV.indexAddr rfl rfl (by omega)) Wanted.none rfl rfl ?_
          refine TS.ways [15] (by kernel_rfl) rfl zq18 ⟨⟨_, rfl, ?_⟩, trivial⟩
          (refine T.storeA Wanted.none rfl rfl ⟨rfl, rfl, rfl, rfl, rfl, trivial⟩ (by exact rfl) .head (splice5b (by rw [hpl]; omega)) ?_)
          refine so ?_
          refine TS.back ?_
          refine TS.take 16 rfl (by kernel_rfl) (by kernel_rfl) (by kernel_rfl) (by kernel_rfl) (PV.indexAddr rfl rfl (by omega)) Wanted.none rfl rfl ?_
          refine TS.ways [17] (by kernel_rfl) rfl zq18 ⟨⟨_, rfl, ?_⟩, trivial⟩
          (refine T.storeA Wanted.none rfl rfl ⟨rfl, rfl, rfl, rfl, rfl, trivial⟩ (by exact rfl) .head (splice5 (by rw [hpl]; omega)) ?_)
          refine so ?_
          refine TS.back ?_
          refine TS.done (by kernel_rfl) (by kernel_rfl) ?_
          refine T.blkEnd ?_
          refine sr ?_
          refine sm ?_
          refine sv (PV.sub rfl rfl (by omega)) ?_
          refine sa ?_
          refine so ?_
          ((rw [show ((j0 + 1 : Nat) : Int) - 1 = (j0 : Int) by omega]; exact T.nextP ⟨j0, _⟩ ⟨by dsimp only; omega, by dsimp only; rw [j2, hins], hpc _ hflat2.symm⟩ (by dsimp only; omega) zq8 (by repeat (first | exact Sel.refl _ | exact Sel.nil | (refine Sel.cons zq1 ?_) | (refine Sel.app zq1 ?_) | exact Sel.one zq1)) rfl))
      · skip
        (repeat refine sq ?_)
        refine T.regionOl (by kernel_rfl) ?_
        refine TO.take 0 rfl (by kernel_rfl) (by kernel_rfl) (by kernel_rfl) (PV.move rfl) Wanted.none rfl rfl ?_
        refine TO.take 1 rfl (by kernel_rfl) (by kernel_rfl) (by kernel_rfl) (PV.move rfl) Wanted.none rfl rfl ?_
        refine TO.take 2 rfl (by kernel_rfl) (by kernel_rfl) (by kernel_rfl) (PV.gtr rfl rfl) Wanted.none rfl rfl ?_
        refine TO.take 3 rfl (by kernel_rfl) (by kernel_rfl) (by kernel_rfl) (PV.move rfl) Wanted.none rfl rfl ?_
        refine TO.take 4 rfl (by kernel_rfl) (by kernel_rfl) (by kernel_rfl) (PV.move rfl) (Wanted.guard rfl rfl (by assumption)) rfl rfl ?_
        refine TO.take 5 rfl (by kernel_rfl) (by kernel_rfl) (by kernel_rfl) (PV.move rfl) (Wanted.guard rfl rfl (by assumption)) rfl rfl ?_
        refine TO.take 6 rfl (by kernel_rfl) (by kernel_rfl) (by kernel_rfl) (PV.move rfl) (Wanted.guard rfl rfl (by assumption)) rfl rfl ?_
        refine TO.take 7 rfl (by kernel_rfl) (by kernel_rfl) (by kernel_rfl) (PV.indexAddr rfl rfl (by omega)) (Wanted.guard rfl rfl (by assumption)) rfl rfl ?_
        refine TO.take 8 rfl (by kernel_rfl) (by kernel_rfl) (by kernel_rfl) (PV.loadAgg rfl zq0 (by assumption) (by exact rfl)) (Wanted.guard rfl rfl (by assumption)) rfl rfl ?_
        refine TO.take 9 rfl (by kernel_rfl) (by kernel_rfl) (by kernel_rfl) (PV.move rfl) (Wanted.guard rfl rfl (by assumption)) rfl rfl ?_
        refine TO.take 10 rfl (by kernel_rfl) (by kernel_rfl) (by kernel_rfl) (PV.move rfl) (Wanted.guard rfl rfl (by assumption)) rfl rfl ?_
        refine TO.take 11 rfl (by kernel_rfl) (by kernel_rfl) (by kernel_rfl) (PV.sub rfl rfl (by omega)) (Wanted.guard rfl rfl (by assumption)) rfl rfl ?_
        refine TO.take 12 rfl (by kernel_rfl) (by kernel_rfl) (by kernel_rfl) (PV.indexAddr rfl rfl (by omega)) (Wanted.guard rfl rfl (by assumption)) rfl rfl ?_
        refine TO.take 13 rfl (by kernel_rfl) (by kernel_rfl) (by kernel_rfl) (PV.loadAgg rfl zq0 (by assumption) (by exact rfl)) (Wanted.guard rfl rfl (by assumption)) rfl rfl ?_
        refine TO.step 14 rfl (by kernel_rfl) zq4 zq17 ?_
        (refine T.callFX (cap := cap) (Wanted.guard rfl rfl (by assumption)) rfl rfl rfl (by exact hcall) ?_; rintro _ rfl)
        refine so ?_
        refine TO.back ?_
        refine TO.take 15 rfl (by kernel_rfl) (by kernel_rfl) (by kernel_rfl) (PV.lss rfl rfl) (Wanted.guard rfl rfl (by assumption)) rfl rfl ?_
        refine TO.take 16 rfl (by kernel_rfl) (by kernel_rfl) (by kernel_rfl) (PV.pickT rfl (by assumption) rfl) Wanted.none rfl rfl ?_
        refine TO.done (by kernel_rfl) zq4 zq17 ?_
        refine sd rfl (by omega) ?_
        refine T.exit rfl ?_
        refine T.blkEnd ?_
        refine sr ?_
        refine sm ?_
        refine sv (PV.add rfl rfl (by omega)) ?_
        refine sa ?_
        refine so ?_
        have hd2 : A.take j0 ++ y :: (x :: (A.drop (j0 + 1) ++ R)) = sortK (fun a b => decide (cmp a b < 0)) (l.take (i + 1)) ++ l.drop (i + 1) := by
          rw [hst, insE, j2, show insK (fun a b => decide (cmp a b < 0)) A x (j0 + 1) = j0 + 1 by unfold insK; rw [hy]; simp [hlt], List.append_assoc, List.cons_append, hsp]
        rw [hd2] at j3
        exact T.nextP ⟨i + 1, _⟩ ⟨by dsimp only; omega, j3⟩ (by dsimp only; omega) zq8 (by repeat (first | exact Sel.refl _ | exact Sel.nil | (refine Sel.cons zq1 ?_) | (refine Sel.app zq1 ?_) | exact Sel.one zq1)) rfl
  · rw [List.take_of_length_le (by omega), List.drop_of_length_le (by omega), List.append_nil] at g2
    refine sq ?_
    refine sq ?_
    refine sr ?_
    refine sm ?_
    refine sm ?_
    refine sv (PV.lss rfl rfl) ?_
    refine so ?_
    refine sd rfl (by omega) ?_
    refine T.exit rfl ?_
    exact T.fallW (Lv.finW lv1 zq4 (RV.none rfl) ⟨rfl, rfl, g2⟩)
end Go.Proofs.YtlklcjpmfjmenaaGreatDoor
