/- Own layer: functions that write blocks of their caller's. -/
import Derived.Test.YtceaicameojcaaaXO
namespace Go.Proofs.Ytceaicameojcaaa
open Go.RowKit

def own0 (l0 : List (Nat × Obj)) : Nat → Prop := fun b => b ∉ l0.map (·.1)
/-- How a function that may write the blocks l0 ends. -/
def FnRW (w : World) (H : Hp) (l0 : List (Nat × Obj)) (R : Value → Hp → List (Nat × Obj) → Prop) : Ending → World → Prop := fun en w' =>
  ∃ v H' l', en = .returned v ∧ (X0.mk w H (own0 l0)).wd l' H' w' ∧ R v H' l'
def FnW (P : Program) (f : FuncId) (args : Array Value) (H : Hp) (l0 : List (Nat × Obj)) (R : Value → Hp → List (Nat × Obj) → Prop) : Prop :=
  ∀ w, (X0.mk w H (own0 l0)).wd l0 H w → CallsIn Fence.wide 0 P f args w (FnRW w H l0 R)

/-- Some blocks out of a list. -/
inductive Pick : List (Nat × Obj) → List (Nat × Obj) → List (Nat × Obj) → Prop
  | nil {l} : Pick l [] l
  | take {p l l0 r} : Pick l l0 r → Pick (p :: l) (p :: l0) r
  | leave {p l l0 r} : Pick l l0 r → Pick (p :: l) l0 (p :: r)
  | app {x l l0 r} : Pick l l0 r → Pick (x ++ l) l0 (x ++ r)
  | all {l} : Pick l l []
  | takeA {x l l0 r} : Pick l l0 r → Pick (x ++ l) (x ++ l0) r
  | allA {l r} : Pick (l ++ r) l r
theorem Pick.perm {l l0 r : List (Nat × Obj)} (h : Pick l l0 r) : (l0 ++ r).Perm l := by
  induction h with
  | nil => exact List.Perm.refl _
  | take _ ih => exact ih.cons _
  | @leave p l l0 r _ ih => exact List.perm_middle.trans (ih.cons _)
  | @app x l l0 r _ ih =>
    rw [← List.append_assoc]
    exact ((List.perm_append_comm).append_right r).trans (by rw [List.append_assoc]; exact ih.append_left x)
  | all => rw [List.append_nil]
  | @takeA x l l0 r _ ih => rw [List.append_assoc]; exact ih.append_left x
  | allA => exact List.Perm.refl _

section
variable {P : Program} {X : Cx} {e : Env} {l : List (Nat × Obj)} {H : Hp} {D : List Deferred} {k : List It}
variable {ty : TypeId} {pos : String} {after : Array Edge} {gd : Option (Nat × Bool)} {all : Array Oper} {rest : List Oper}

theorem Wd.start {l0 r : List (Nat × Obj)} {w : World} (h : Wd X (l0 ++ r) H w) : (X0.mk w H (own0 l0)).wd l0 H w := by
  refine ⟨fun p hp => ?_, ?_, h.fro, Keep.refl _ _, Hp.le.refl _, fun _ _ _ => rfl⟩
  · obtain ⟨h1, h2, _⟩ := h.own p (List.mem_append_left _ hp)
    exact ⟨h1, h2, fun _ hn => hn (List.mem_map.2 ⟨p, hp, rfl⟩)⟩
  · have := h.nd
    rw [List.map_append] at this
    exact (List.nodup_append.1 this).1
theorem Wd.back {l0 r l' : List (Nat × Obj)} {H' : Hp} {w w' : World} (h : Wd X (l0 ++ r) H w) (h' : (X0.mk w H (own0 l0)).wd l' H' w') : Wd X (l' ++ r) H' w' := by
  have hnd := h.nd
  rw [List.map_append] at hnd
  obtain ⟨n1, n2, n3⟩ := List.nodup_append.1 hnd
  have hlow : ∀ b, b < X.w1.heap.size → X.Pt b → own0 l0 b := by
    intro b hb hp hm
    obtain ⟨q, hq, he⟩ := List.mem_map.1 hm
    have := (h.own q (List.mem_append_left _ hq)).2.2
    rw [he] at this
    exact this hb hp
  refine ⟨fun p hp => ?_, ?_, h'.fro, ⟨h'.keep.os.trans h.keep.os, h'.keep.tape.trans h.keep.tape, h'.keep.output.trans h.keep.output, Nat.le_trans h.keep.size h'.keep.size, Nat.le_trans h.keep.drawn h'.keep.drawn, fun b hb hp => ?_⟩, h.le.trans h'.le, fun b hb hp => ?_⟩
  · rcases List.mem_append.1 hp with hp | hp
    · obtain ⟨a1, a2, a3⟩ := h'.own p hp
      refine ⟨a1, a2, fun hlt hpt => ?_⟩
      exact a3 (Nat.lt_of_lt_of_le hlt h.keep.size) (hlow _ hlt hpt)
    · obtain ⟨a1, a2, a3⟩ := h.own p (List.mem_append_right _ hp)
      have hlt := h.lt (List.mem_append_right _ hp)
      have ho : own0 l0 p.1 := fun hm => n3 p.1 hm p.1 (List.mem_map.2 ⟨p, hp, rfl⟩) rfl
      exact ⟨(h'.keep.block _ hlt ho).trans a1, (h'.ext _ hlt ho).trans a2, a3⟩
  · rw [List.map_append]
    refine List.nodup_append.2 ⟨h'.nd, n2, ?_⟩
    intro a ha b hb hab
    subst hab
    obtain ⟨p, hp, rfl⟩ := List.mem_map.1 ha
    obtain ⟨q, hq, he⟩ := List.mem_map.1 hb
    have hlt := h.lt (List.mem_append_right _ hq)
    rw [he] at hlt
    refine (h'.own p hp).2.2 hlt fun hm => ?_
    exact n3 p.1 hm p.1 hb rfl
  · exact (h'.keep.block b (Nat.lt_of_lt_of_le hb h.keep.size) (hlow b hb hp)).trans (h.keep.block b hb hp)
  · exact (h'.ext b (Nat.lt_of_lt_of_le hb h.keep.size) (hlow b hb hp)).trans (h.ext b hb hp)

theorem FnW.mono {f : FuncId} {args : Array Value} {l0 : List (Nat × Obj)} {R R' : Value → Hp → List (Nat × Obj) → Prop} (h : FnW P f args H l0 R) (hr : ∀ v H' l', R v H' l' → R' v H' l') : FnW P f args H l0 R' :=
  fun w hw => (h w hw).mono fun en w' ⟨v, H', l', h1, h2, h3⟩ => ⟨v, H', l', h1, h2, hr v H' l' h3⟩
/-- A function that writes nothing of its caller's. -/
theorem FnW.of {f : FuncId} {args : Array Value} {l0 : List (Nat × Obj)} {R : Value → Hp → Prop} (h : Fn P f args H R) : FnW P f args H l0 (fun v H' l' => l' = l0 ∧ R v H') :=
  fun w hw => (h.get w hw.fro).mono fun en w' ⟨v, H', h1, h2, h3, h4, h5⟩ => ⟨v, H', l0, h1, hw.call h4 h3 h2, rfl, h5⟩

theorem T.enterW {o : Oper} {d : Nat} {f : FuncId} {args : Array Value} {l0 r : List (Nat × Obj)} {R : Value → Hp → List (Nat × Obj) → Prop} (hw : Wanted e all o) (hd : o.dst = some d) (hN : Nat.blt d X.N = true)
    (hrun : ∀ a w, Ea X e D a → (execOp a.eval o).run P w = .ok (.enter f args) w) (hpk : Pick l l0 r) (hf : FnW P f args H l0 R)
    (h : ∀ v H' l', H.le H' → R v H' l' → T P X ((d, v) :: e) (l' ++ r) H' D (.ops all rest :: k)) : T P X e l H D (.ops all (o :: rest) :: k) := T.mk fun a w ha hw' => by
  refine wpList_cons (hw.get X D a ha) ?_
  rw [run_semAt (hrun a w ha) (fun _ => by simp), Oper.uponIn_enter]
  refine ⟨fun hd => by simp [Fw, Fence.wide] at hd, ?_⟩
  have hwp := hw'.perm hpk.perm
  have hc : CallsIn (Fw X.ro) 0 P f args w (FnRW w H l0 R) := hf w hwp.start
  refine hc.mono ?_
  rintro en w' ⟨v, H', l', rfl, h2, h3⟩
  rw [hd]
  exact (h v H' l' h2.le h3).get _ w' (ha.put (by simpa using hN) v) (hwp.back h2)
/-- A call of a named function that writes blocks of the caller's. -/
theorem T.callW {d : Nat} {f : FuncId} [hE : Ent P f] {xs : List Operand} {ts : Array TypeId} {vs : List Value} {l0 r : List (Nat × Obj)} {R : Value → Hp → List (Nat × Obj) → Prop} (hw : Wanted e all ⟨some d, .call ⟨.value (.func f), xs.toArray, ts⟩, ty, pos, after, gd⟩) (hN : Nat.blt d X.N = true)
    (hv : evL e xs = some vs) (hf : FnW P f vs.toArray H l0 R) (hpk : Pick l l0 r)
    (h : ∀ v H' l', H.le H' → R v H' l' → T P X ((d, v) :: e) (l' ++ r) H' D (.ops all rest :: k)) :
    T P X e l H D (.ops all (⟨some d, .call ⟨.value (.func f), xs.toArray, ts⟩, ty, pos, after, gd⟩ :: rest) :: k) :=
  T.enterW (d := d) hw rfl hN (fun a w ha => by
    have := evL_map ha xs vs hv
    have hE' := hE.h (xs.map a.eval).toArray w
    rw [this] at hE'
    simp [execOp, resolve, Act.eval, Deferred.ofValue, invoke, List.map_toArray, this, hE']) hpk hf h
/-- .. that gives one value and one state of the blocks. -/
theorem T.callWV {d : Nat} {f : FuncId} [hE : Ent P f] {xs : List Operand} {ts : Array TypeId} {vs : List Value} {l0 r l1 : List (Nat × Obj)} {v : Value} (hw : Wanted e all ⟨some d, .call ⟨.value (.func f), xs.toArray, ts⟩, ty, pos, after, gd⟩) (hN : Nat.blt d X.N = true)
    (hv : evL e xs = some vs) (hf : FnW P f vs.toArray H l0 (fun u H' l' => u = v ∧ H' = H ∧ l' = l1)) (hpk : Pick l l0 r)
    (h : T P X ((d, v) :: e) (l1 ++ r) H D (.ops all rest :: k)) :
    T P X e l H D (.ops all (⟨some d, .call ⟨.value (.func f), xs.toArray, ts⟩, ty, pos, after, gd⟩ :: rest) :: k) :=
  T.callW hw hN hv hf hpk fun u H' l' _ h' => by obtain ⟨rfl, rfl, rfl⟩ := h'; exact h

/-- The beginning and the end of such a function. -/
def fnXW (P : Program) (fn : Func) (w : World) (H : Hp) (l0 : List (Nat × Obj)) (R : Value → Hp → List (Nat × Obj) → Prop) : Cx :=
  { ro := none, N := fn.ntmps, w1 := w, H0 := H, Pt := own0 l0, Q := bodyPostM Fence.wide 0 P fn (FnRW w H l0 R) }
theorem FnW.of_T {f : FuncId} {fn : Func} {c : Code} {vs : List Value} {l0 : List (Nat × Obj)} {R : Value → Hp → List (Nat × Obj) → Prop} (hf : P.funcs[f]? = some fn) (hb : fn.body = some c) (hs : Nat.ble vs.length fn.ntmps = true)
    (h : ∀ w, T P (fnXW P fn w H l0 R) (argE 0 vs) l0 H [] [.code c]) : FnW P f vs.toArray H l0 R := fun w hw => by
  refine callsIn_of_wp_marks hf hb trivial ?_
  have hle : vs.length ≤ fn.ntmps := Nat.le_of_ble_eq_true hs
  have := (h w).get { tmps := vs.toArray ++ Array.replicate (fn.ntmps - vs.toArray.size) undef, defers := [] } w ⟨by simp [fnXW]; omega, fun i v hi => ?_, rfl⟩ (hw.re rfl rfl rfl)
  · exact this
  · obtain ⟨_, h2⟩ := argE_get vs 0 i v hi
    rw [Nat.sub_zero] at h2
    have hlt := (List.getElem?_eq_some_iff.1 h2).1
    rw [Array.getElem?_append_left (by simpa using hlt)]
    simpa using h2
theorem T.retW {fn : Func} {w0 : World} {H0 : Hp} {l0 : List (Nat × Obj)} {R : Value → Hp → List (Nat × Obj) → Prop} (h : Lv P (fnXW P fn w0 H0 l0 R) fn (FnRW w0 H0 l0 R) e l H D) : T P (fnXW P fn w0 H0 l0 R) e l H D (.code .ret :: k) :=
  T.ret fun a w ha hw => by
    show LeavesInM _ _ _ _ _ _ a.defers _ _
    rw [ha.dfr]; exact h.get D a w ha hw
theorem T.fallW {fn : Func} {w0 : World} {H0 : Hp} {l0 : List (Nat × Obj)} {R : Value → Hp → List (Nat × Obj) → Prop} (h : Lv P (fnXW P fn w0 H0 l0 R) fn (FnRW w0 H0 l0 R) e l H D) : T P (fnXW P fn w0 H0 l0 R) e l H D [] :=
  T.fall fun a w ha hw => by
    show LeavesInM _ _ _ _ _ _ a.defers _ _
    rw [ha.dfr]; exact h.get D a w ha hw
theorem Lv.finW {fn : Func} {w0 : World} {H0 : Hp} {l0 : List (Nat × Obj)} {R : Value → Hp → List (Nat × Obj) → Prop} {v : Value} (l' : List (Nat × Obj)) (hl : List.Sublist l' l) (hr : RV P fn e l H v) (hR : R v H l') : Lv P (fnXW P fn w0 H0 l0 R) fn (FnRW w0 H0 l0 R) e l H [] :=
  Lv.mk fun D0 a w ha hw => ⟨v, hr.get _ _ a w ha hw, v, H, l', rfl, (hw.sub hl).re rfl rfl rfl, hR⟩
end
theorem FnW.mk {P : Program} {f : FuncId} {args : Array Value} {H : Hp} {l0 : List (Nat × Obj)} {R : Value → Hp → List (Nat × Obj) → Prop} (h : ∀ w, (X0.mk w H (own0 l0)).wd l0 H w → CallsIn Fence.wide 0 P f args w (FnRW w H l0 R)) : FnW P f args H l0 R := h
theorem FnW.get {P : Program} {f : FuncId} {args : Array Value} {H : Hp} {l0 : List (Nat × Obj)} {R : Value → Hp → List (Nat × Obj) → Prop} (h : FnW P f args H l0 R) : ∀ w, (X0.mk w H (own0 l0)).wd l0 H w → CallsIn Fence.wide 0 P f args w (FnRW w H l0 R) := h
attribute [irreducible] FnW
end Go.Proofs.Ytceaicameojcaaa
