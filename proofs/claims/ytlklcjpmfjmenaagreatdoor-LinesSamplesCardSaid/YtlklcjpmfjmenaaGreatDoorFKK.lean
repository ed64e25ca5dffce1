/- lines: the library's insertion sort and its stable sort of a short list. -/
import Derived.Test.YtlklcjpmfjmenaaGreatDoorFKJ
import Derived.Test.YtlklcjpmfjmenaaGreatDoorFKS
namespace Go.Proofs.YtlklcjpmfjmenaaGreatDoor
open Go.RowKit

section
variable {P : Program} {X : Cx} {e : Env} {l : List (Nat × Obj)} {H : Hp} {D : List Deferred} {k : List It} {ty : TypeId} {pos : String} {after : Array Edge} {gd : Option (Nat × Bool)} {all : Array Oper} {rest : List Oper}
/-- A call of a function value of whose result alone something is known. -/
theorem T.callFX {d : Nat} {f : FuncId} [hE : Ent P f] {x : Operand} {xs : List Operand} {ts : Array TypeId} {vs cap : List Value} {R : Value → Prop} (hw : Wanted e all ⟨some d, .call ⟨.value x, xs.toArray, ts⟩, ty, pos, after, gd⟩) (hN : Nat.blt d X.N = true)
    (hx : evE e x = some (.func (.func f) #[] cap.toArray)) (hv : evL e xs = some vs) (hf : Fn P f (vs ++ cap).toArray H (fun u _ => R u))
    (h : ∀ v, R v → T P X ((d, v) :: e) l H D (.ops all rest :: k)) :
    T P X e l H D (.ops all (⟨some d, .call ⟨.value x, xs.toArray, ts⟩, ty, pos, after, gd⟩ :: rest) :: k) := T.mk fun a w ha hw' => by
  refine wpList_cons (hw.get X D a ha) ?_
  have hrun : (execOp a.eval ⟨some d, .call ⟨.value x, xs.toArray, ts⟩, ty, pos, after, gd⟩).run P w = .ok (.enter f (vs ++ cap).toArray) w := by
    have := evL_map ha xs vs hv
    have hE' := hE.h (vs ++ cap).toArray w
    simp [execOp, resolve, ha.eval hx, Deferred.ofValue, invoke, List.map_toArray, this]
    simpa using hE'
  rw [run_semAt hrun (fun _ => by simp), Oper.uponIn_enter]
  refine ⟨fun hd => by simp [Fw, Fence.wide] at hd, ?_⟩
  have hc : CallsIn (Fw X.ro) 0 P f (vs ++ cap).toArray w (FnR w H (fun u _ => R u)) := hf.get w hw'.fro
  refine hc.mono ?_
  rintro en w' ⟨u, H', rfl, h2, h3, h4, h5⟩
  exact (h _ h5).get _ w' (ha.put (by simpa using hN) u) (hw'.callV h4)
end
theorem splice5 {a b c d f a' b' c' d' f' : Value} {pre post : List Value} {n : Nat} (hn : pre.length = n) : Splice (pre ++ ([a, b, c, d, f] ++ post)) n [a', b', c', d', f'] (pre ++ ([a', b', c', d', f'] ++ post)) := by
  subst hn
  induction pre with
  | nil => exact .cons (.cons (.cons (.cons (.cons .nil))))
  | cons p pre ih => exact .skip ih
theorem splice5b {a b c d f x1 x2 x3 x4 x5 a' b' c' d' f' : Value} {pre post : List Value} {n : Nat} (hn : pre.length + 5 = n) : Splice (pre ++ ([x1, x2, x3, x4, x5] ++ ([a, b, c, d, f] ++ post))) n [a', b', c', d', f'] (pre ++ ([x1, x2, x3, x4, x5] ++ ([a', b', c', d', f'] ++ post))) := by
  have h := splice5 (a := a) (b := b) (c := c) (d := d) (f := f) (a' := a') (b' := b') (c' := c') (d' := d') (f' := f') (pre := pre ++ [x1, x2, x3, x4, x5]) (post := post) (n := n) (by simpa using hn)
  rw [List.append_assoc, List.append_assoc] at h
  exact h
structure InG where
  i : Nat
  lv : List (Nat × Obj)
structure IjG where
  j : Nat
  lv : List (Nat × Obj)
end Go.Proofs.YtlklcjpmfjmenaaGreatDoor
