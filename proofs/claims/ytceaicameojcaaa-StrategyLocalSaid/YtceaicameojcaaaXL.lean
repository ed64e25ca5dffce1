/- Own layer over the fenced calculus: abstract states (slots, owned blocks, a heap that is never written again) and a rule for each kind of operation. -/
import Derived.WalkKit
import Derived.RangeFuncIn
import Derived.RangeFuncCalls
import Derived.OrdersIn
import Derived.TacticsIn
import Derived.CallsIn
import Derived.RangeFuncLeaves
import Derived.Shelf.Abstract
namespace Go.Proofs.Ytceaicameojcaaa
open Go.RowKit


/-- The fence that lets everything in, in a round or not. -/
def Fw (ro : Option Nat) : Fence := { Fence.wide with round := ro }
theorem Fw_none : Fw none = Fence.wide := rfl
theorem Fw_fn (ro : Option Nat) (f : FuncId) : (Fw ro).fn f := trivial
theorem Fw_depth (ro : Option Nat) : (Fw ro).depth = none := rfl
theorem Fw_round (ro : Option Nat) : (Fw ro).round = ro := rfl

abbrev Post := Exit → Act → World → Prop

/-- What is still to be done. -/
inductive It where
  | code (c : Code)
  | blk (id : Nat)
  | ops (all : Array Oper) (l : List Oper)
  | done (J : Act → World → Prop)

def wpK (P : Program) (ro : Option Nat) (Q : Post) : List It → Post
  | [] => Q
  | .code c :: k => fun e a w => match e with
    | .normal => c.wpIn (Fw ro) 0 P (wpK P ro Q k) a w
    | e => wpK P ro Q k e a w
  | .blk id :: k => fun e a w => match e with
    | .exit id' => if id' = id then wpK P ro Q k .normal a w else wpK P ro Q k (.exit id') a w
    | e => wpK P ro Q k e a w
  | .ops all l :: k => fun e a w => match e with
    | .normal => wpListIn (Fw ro) 0 P all (wpK P ro Q k) l a w
    | e => wpK P ro Q k e a w
  | .done J :: k => fun e a w => match e with
    | .normal => J a w
    | e => wpK P ro Q k e a w

section
variable {P : Program} {ro : Option Nat} {Q : Post} {k : List It} {a : Act} {w : World}

theorem wpK_seq {x y : Code} (h : wpK P ro Q (.code x :: .code y :: k) .normal a w) : wpK P ro Q (.code (.seq x y) :: k) .normal a w := by
  refine wpIn_seq (wpIn_mono (show x.wpIn _ _ _ (wpK P ro Q (.code y :: k)) a w from h) ?_)
  intro e a w he
  cases e <;> exact he

theorem wpK_block {id : Nat} {c : Code} (h : wpK P ro Q (.code c :: .blk id :: k) .normal a w) : wpK P ro Q (.code (.block id c) :: k) .normal a w := by
  refine wpIn_block (wpIn_mono (show c.wpIn _ _ _ (wpK P ro Q (.blk id :: k)) a w from h) ?_)
  intro e a w he
  cases e <;> exact he

theorem wpK_cond {c : Operand} {x y : Code} {t : Bool} (hc : a.eval c = .bool t) (h : wpK P ro Q (.code (if t then x else y) :: k) .normal a w) : wpK P ro Q (.code (.cond c x y) :: k) .normal a w :=
  wpIn_cond hc h

theorem wpK_skip (h : wpK P ro Q k .normal a w) : wpK P ro Q (.code .skip :: k) .normal a w := wpIn_skip h

theorem wpK_region {id : Nat} {l : List Oper} (h : wpK P ro Q (.ops l.toArray l :: k) .normal a w) : wpK P ro Q (.code (.region id l.toArray false) :: k) .normal a w :=
  wpIn_region_lit h

/-- Where an exit leads. -/
def exitK (id : Nat) : List It → Option (List It)
  | [] => none
  | .blk id' :: k => bif Nat.beq id id' then some k else exitK id k
  | _ :: k => exitK id k

theorem wpK_exit_of {id : Nat} {k' : List It} : ∀ {k : List It}, exitK id k = some k' → wpK P ro Q k' .normal a w → wpK P ro Q k (.exit id) a w
  | [], h, _ => by cases h
  | .blk id' :: k, h, hk => by
    show if id = id' then _ else _
    unfold exitK at h
    by_cases e : id = id'
    · subst e
      rw [if_pos rfl]
      have hb : Nat.beq id id = true := Nat.beq_refl id
      rw [hb] at h
      obtain rfl : k = k' := by simpa using h
      exact hk
    · rw [if_neg e]
      have : Nat.beq id id' = false := by rw [Bool.eq_false_iff]; intro hh; exact e (Nat.eq_of_beq_eq_true hh)
      rw [this] at h
      exact wpK_exit_of (k := k) h hk
  | .code _ :: k, h, hk => wpK_exit_of (k := k) h hk
  | .ops _ _ :: k, h, hk => wpK_exit_of (k := k) h hk
  | .done _ :: k, h, hk => wpK_exit_of (k := k) h hk

theorem wpK_exit {id : Nat} {k' : List It} (hx : exitK id k = some k') (h : wpK P ro Q k' .normal a w) : wpK P ro Q (.code (.exit id) :: k) .normal a w :=
  wpIn_exit (wpK_exit_of hx h)

theorem wpK_ret_of : ∀ {k : List It}, Q .ret a w → wpK P ro Q k .ret a w
  | [], h => h
  | .blk _ :: k, h => wpK_ret_of (k := k) h
  | .code _ :: k, h => wpK_ret_of (k := k) h
  | .ops _ _ :: k, h => wpK_ret_of (k := k) h
  | .done _ :: k, h => wpK_ret_of (k := k) h

theorem wpK_ret (h : Q .ret a w) : wpK P ro Q (.code .ret :: k) .normal a w := wpIn_ret (wpK_ret_of h)

theorem exists_least {p : Nat → Prop} : ∀ n, p n → ∃ m, p m ∧ ∀ j, p j → m ≤ j := by
  intro n
  induction n using Nat.strongRecOn with
  | _ n ih =>
    intro hn
    by_cases h : ∃ j, j < n ∧ p j
    · obtain ⟨j, hj, hp⟩ := h
      exact ih j hj hp
    · exact ⟨n, hn, fun j hj => by
        by_cases hlt : j < n
        · exact absurd ⟨j, hlt, hj⟩ h
        · omega⟩

/-- A loop, with a ghost. -/
theorem wpK_loop {γ : Type} {body : Code} (I : γ → Act → World → Prop) (μ : γ → Nat) (g0 : γ) (h0 : I g0 a w)
    (h : ∀ g a w, I g a w → wpK P ro Q (.code body :: .done (fun a w => ∃ g', I g' a w ∧ μ g' < μ g) :: k) .normal a w) :
    wpK P ro Q (.code (.loop body) :: k) .normal a w := by
  classical
  let m : Act → World → Nat := fun a w => if hx : ∃ n, ∃ g, I g a w ∧ μ g = n then Classical.choose (exists_least (p := fun n => ∃ g, I g a w ∧ μ g = n) _ (Classical.choose_spec hx)) else 0
  have hm : ∀ a w g, I g a w → (∃ g1, I g1 a w ∧ μ g1 = m a w) ∧ m a w ≤ μ g := by
    intro a w g hg
    have hx : ∃ n, ∃ g, I g a w ∧ μ g = n := ⟨_, g, hg, rfl⟩
    have he : m a w = Classical.choose (exists_least (p := fun n => ∃ g, I g a w ∧ μ g = n) _ (Classical.choose_spec hx)) := by
      show (if hx : _ then _ else _) = _
      rw [dif_pos hx]
    have hs := Classical.choose_spec (exists_least (p := fun n => ∃ g, I g a w ∧ μ g = n) _ (Classical.choose_spec hx))
    rw [← he] at hs
    exact ⟨hs.1, hs.2 _ ⟨g, hg, rfl⟩⟩
  refine wpIn_loop (fun a w => ∃ g, I g a w) m ⟨g0, h0⟩ ?_
  rintro a w ⟨g1, hg1⟩
  obtain ⟨⟨g, hg, hma⟩, -⟩ := hm a w g1 hg1
  refine wpIn_mono (show body.wpIn _ _ _ (wpK P ro Q (.done (fun a w => ∃ g', I g' a w ∧ μ g' < μ g) :: k)) a w from h g a w hg) ?_
  intro e a' w' he
  cases e with
  | normal =>
    obtain ⟨g', hi, hlt⟩ := he
    refine ⟨⟨g', hi⟩, ?_⟩
    have := (hm a' w' g' hi).2
    show m a' w' < m a w
    omega
  | _ => exact he
end



/-- A part of the heap that is never written again. -/
abbrev Hp := Nat → Option Obj
def Hp.le (H H' : Hp) : Prop := ∀ b o, H b = some o → H' b = some o
theorem Hp.le.refl (H : Hp) : H.le H := fun _ _ h => h
theorem Hp.le.trans {A B C : Hp} (h : A.le B) (k : B.le C) : A.le C := fun b o hb => k b o (h b o hb)
def Hp.put (H : Hp) (b : Nat) (o : Obj) : Hp := fun i => if i = b then some o else H i
def Hin (H : Hp) (w : World) : Prop := ∀ b o, H b = some o → w.heap[b]? = some o

abbrev Env := List (Nat × Value)
def Env.get : Env → Nat → Option Value
  | [], _ => none
  | (j, v) :: e, i => bif Nat.beq i j then some v else Env.get e i

structure Keep (Pt : Nat → Prop) (w w' : World) : Prop where
  os : w'.os = w.os
  tape : w'.tape = w.tape
  output : w'.output = w.output
  size : w.heap.size ≤ w'.heap.size
  drawn : w.drawn ≤ w'.drawn
  block : ∀ k, k < w.heap.size → Pt k → w'.heap[k]? = w.heap[k]?

theorem Keep.refl (Pt : Nat → Prop) (w : World) : Keep Pt w w := ⟨rfl, rfl, rfl, Nat.le_refl _, Nat.le_refl _, fun _ _ _ => rfl⟩
theorem Keep.trans {Pt : Nat → Prop} {a b c : World} (h : Keep Pt a b) (k : Keep Pt b c) : Keep Pt a c :=
  ⟨k.os.trans h.os, k.tape.trans h.tape, k.output.trans h.output, Nat.le_trans h.size k.size, Nat.le_trans h.drawn k.drawn, fun i hi hp => (k.block i (Nat.lt_of_lt_of_le hi h.size) hp).trans (h.block i hi hp)⟩
theorem Keep.mono {Pt Pt' : Nat → Prop} {a b : World} (h : Keep Pt a b) (hp : ∀ k, k < a.heap.size → Pt' k → Pt k) : Keep Pt' a b :=
  ⟨h.os, h.tape, h.output, h.size, h.drawn, fun k hk hk' => h.block k hk (hp k hk hk')⟩
abbrev All : Nat → Prop := fun _ => True
theorem Keep.below {w w' : World} (h : Keep All w w') : Below w.heap.size w w' := ⟨h.os, h.tape, h.output, h.size, fun k hk => h.block k hk trivial⟩
theorem Keep.alloc (Pt : Nat → Prop) (w : World) (o : Obj) : Keep Pt w (w.alloc o) := ⟨rfl, rfl, rfl, by simp, Nat.le_refl _, fun k hk _ => Go.heap_alloc_old w o hk⟩
theorem Keep.drew (Pt : Nat → Prop) (w : World) : Keep Pt w w.drew := ⟨rfl, rfl, rfl, Nat.le_refl _, Nat.le_succ _, fun _ _ _ => rfl⟩
theorem Keep.putObj {Pt : Nat → Prop} {w : World} {b : Nat} (o : Obj) (hb : b < w.heap.size → ¬ Pt b) : Keep Pt w (w.putObj b o) :=
  ⟨rfl, rfl, rfl, by simp [World.putObj], Nat.le_refl _, fun k hk hp => World.putObj_heap_other (fun e => by subst e; exact hb hk hp)⟩

/-- Where the walk stands: in a round or not; how many slots; the world at the start; which of its blocks are not to be written; what is to be shown at the end. -/
structure Cx where
  ro : Option Nat
  N : Nat
  w1 : World
  H0 : Hp
  Pt : Nat → Prop
  Q : Post

structure Wd (X : Cx) (l : List (Nat × Obj)) (H : Hp) (w : World) : Prop where
  own : ∀ p ∈ l, w.heap[p.1]? = some p.2 ∧ H p.1 = none ∧ (p.1 < X.w1.heap.size → ¬ X.Pt p.1)
  nd : (l.map (·.1)).Nodup
  fro : Hin H w
  keep : Keep X.Pt X.w1 w
  le : X.H0.le H
  ext : ∀ b, b < X.w1.heap.size → X.Pt b → H b = X.H0 b

structure Ea (X : Cx) (e : Env) (D : List Deferred) (a : Act) : Prop where
  size : a.tmps.size = X.N
  get : ∀ i v, e.get i = some v → a.tmps[i]? = some v
  dfr : a.defers = D

/-- From every such state on, what is to be done comes to its end. -/
def T (P : Program) (X : Cx) (e : Env) (l : List (Nat × Obj)) (H : Hp) (D : List Deferred) (k : List It) : Prop :=
  ∀ a w, Ea X e D a → Wd X l H w → wpK P X.ro X.Q k .normal a w

section wd
variable {X : Cx} {l l' : List (Nat × Obj)} {H : Hp} {w : World}

theorem Wd.lt (h : Wd X l H w) {p : Nat × Obj} (hp : p ∈ l) : p.1 < w.heap.size := (Array.getElem?_eq_some_iff.1 (h.own p hp).1).1
theorem Wd.ltH (h : Wd X l H w) {b : Nat} {o : Obj} (hp : H b = some o) : b < w.heap.size := (Array.getElem?_eq_some_iff.1 (h.fro b o hp)).1
theorem Wd.none_new (h : Wd X l H w) : H w.heap.size = none := by
  cases hh : H w.heap.size with
  | none => rfl
  | some o => have := h.ltH hh; omega

theorem Wd.alloc (h : Wd X l H w) (o : Obj) : Wd X ((w.heap.size, o) :: l) H (w.alloc o) := by
  refine ⟨?_, ?_, ?_, h.keep.trans (Keep.alloc _ w o), h.le, h.ext⟩
  · intro p hp
    rcases List.mem_cons.1 hp with rfl | hp
    · refine ⟨Go.heap_alloc_new w o, h.none_new, fun hlt => ?_⟩
      have := h.keep.size
      simp only at hlt; omega
    · obtain ⟨h1, h2, h3⟩ := h.own p hp
      exact ⟨(Go.heap_alloc_old w o (h.lt hp)).trans h1, h2, h3⟩
  · rw [List.map_cons, List.nodup_cons]
    refine ⟨fun hm => ?_, h.nd⟩
    obtain ⟨p, hp, he⟩ := List.mem_map.1 hm
    have := h.lt hp
    simp only at he; omega
  · intro b o' hb
    exact (Go.heap_alloc_old w o (h.ltH hb)).trans (h.fro b o' hb)

theorem Wd.drew (h : Wd X l H w) : Wd X l H w.drew := ⟨h.own, h.nd, h.fro, h.keep.trans (Keep.drew _ w), h.le, h.ext⟩

/-- One block's content is another; the block's number stays. -/
inductive Upd : List (Nat × Obj) → Nat → Obj → Obj → List (Nat × Obj) → Prop
  | head {l b o o'} : Upd ((b, o) :: l) b o o' ((b, o') :: l)
  | tail {p l b o o' l'} : Upd l b o o' l' → Upd (p :: l) b o o' (p :: l')

theorem Upd.mem {b : Nat} {o o' : Obj} (h : Upd l b o o' l') : (b, o) ∈ l := by
  induction h with
  | head => exact List.mem_cons_self
  | tail _ ih => exact List.mem_cons_of_mem _ ih
theorem Upd.keys {b : Nat} {o o' : Obj} (h : Upd l b o o' l') : l'.map (·.1) = l.map (·.1) := by
  induction h with
  | head => rfl
  | tail _ ih => simp [ih]
theorem Upd.mem' {b : Nat} {o o' : Obj} (h : Upd l b o o' l') (hn : (l.map (·.1)).Nodup) : ∀ p ∈ l', p = (b, o') ∨ (p ∈ l ∧ p.1 ≠ b) := by
  induction h with
  | @head l b o o' =>
    intro p hp
    rw [List.map_cons, List.nodup_cons] at hn
    rcases List.mem_cons.1 hp with rfl | hp
    · exact .inl rfl
    · exact .inr ⟨List.mem_cons_of_mem _ hp, fun e => hn.1 (e ▸ List.mem_map.2 ⟨p, hp, rfl⟩)⟩
  | @tail q l b o o' l' hu ih =>
    intro p hp
    rw [List.map_cons, List.nodup_cons] at hn
    rcases List.mem_cons.1 hp with rfl | hp
    · refine .inr ⟨List.mem_cons_self, fun e => hn.1 ?_⟩
      exact List.mem_map.2 ⟨_, hu.mem, e.symm⟩
    · rcases ih hn.2 p hp with h | ⟨h1, h2⟩
      · exact .inl h
      · exact .inr ⟨List.mem_cons_of_mem _ h1, h2⟩

theorem Wd.upd (h : Wd X l H w) {b : Nat} {o o' : Obj} (hu : Upd l b o o' l') : Wd X l' H (w.putObj b o') := by
  obtain ⟨ho, hn, hp⟩ := h.own _ hu.mem
  have hlt := h.lt hu.mem
  simp only at ho hn hp hlt
  refine ⟨?_, by rw [hu.keys]; exact h.nd, ?_, ?_, h.le, h.ext⟩
  · intro p hp'
    rcases hu.mem' h.nd p hp' with rfl | ⟨h1, h2⟩
    · exact ⟨World.putObj_heap_same hlt, hn, hp⟩
    · obtain ⟨a1, a2, a3⟩ := h.own p h1
      exact ⟨(World.putObj_heap_other h2).trans a1, a2, a3⟩
  · intro c oc hc
    refine (World.putObj_heap_other (fun e => ?_)).trans (h.fro c oc hc)
    subst e; rw [hn] at hc; cases hc
  · have := h.keep.size
    refine ⟨h.keep.os, h.keep.tape, h.keep.output, by simp [World.putObj]; exact this, h.keep.drawn, fun k hk hk' => ?_⟩
    refine (World.putObj_heap_other (fun e => ?_)).trans (h.keep.block k hk hk')
    subst e; exact hp hk hk'

theorem Upd.app {b : Nat} {o o' : Obj} {x : List (Nat × Obj)} (h : Upd l b o o' l') : Upd (x ++ l) b o o' (x ++ l') := by
  induction x with
  | nil => exact h
  | cons p x ih => exact Upd.tail ih
theorem Wd.sub (h : Wd X l H w) (hs : List.Sublist l' l) : Wd X l' H w :=
  ⟨fun p hp => h.own p (hs.subset hp), h.nd.sublist (hs.map _), h.fro, h.keep, h.le, h.ext⟩
theorem Wd.perm (h : Wd X l H w) (hs : l'.Perm l) : Wd X l' H w :=
  ⟨fun p hp => h.own p (hs.mem_iff.1 hp), (hs.map _).nodup_iff.2 h.nd, h.fro, h.keep, h.le, h.ext⟩

theorem Hp.le_put {H : Hp} {b : Nat} {o : Obj} (h : H b = none) : H.le (H.put b o) := fun i o' hi => by
  unfold Hp.put
  split
  · rename_i e; subst e; rw [h] at hi; cases hi
  · exact hi
theorem Hp.put_same {H : Hp} {b : Nat} {o : Obj} : H.put b o b = some o := by simp [Hp.put]
theorem Hp.put_other {H : Hp} {b i : Nat} {o : Obj} (h : i ≠ b) : H.put b o i = H i := by simp [Hp.put, h]

/-- A block is given up for writing. -/
theorem Wd.freeze {b : Nat} {o : Obj} (h : Wd X ((b, o) :: l) H w) : Wd X l (H.put b o) w := by
  obtain ⟨ho, hn, hp⟩ := h.own _ List.mem_cons_self
  have hnd := h.nd
  rw [List.map_cons, List.nodup_cons] at hnd
  simp only at ho hn hp
  refine ⟨fun p hp' => ?_, hnd.2, ?_, h.keep, h.le.trans (Hp.le_put hn), fun c hc hc' => ?_⟩
  · obtain ⟨a1, a2, a3⟩ := h.own p (List.mem_cons_of_mem _ hp')
    refine ⟨a1, ?_, a3⟩
    rw [Hp.put_other (fun e => hnd.1 (by subst e; exact List.mem_map.2 ⟨p, hp', rfl⟩))]; exact a2
  · intro c oc hc
    by_cases e : c = b
    · subst e; rw [Hp.put_same] at hc; cases hc; exact ho
    · rw [Hp.put_other e] at hc; exact h.fro c oc hc
  · rw [Hp.put_other (fun e => by subst e; exact hp hc hc')]; exact h.ext c hc hc'

/-- Behind a call that writes nothing that lay. -/
theorem Wd.call {H' : Hp} {w' : World} (h : Wd X l H w) (hk : Keep All w w') (hin : Hin H' w') (he : ∀ b, b < w.heap.size → H' b = H b) : Wd X l H' w' := by
  refine ⟨fun p hp => ?_, h.nd, hin, h.keep.trans (hk.mono fun _ _ _ => trivial), ?_, fun b hb hb' => ?_⟩
  · obtain ⟨a1, a2, a3⟩ := h.own p hp
    exact ⟨(hk.block _ (h.lt hp) trivial).trans a1, (he _ (h.lt hp)).trans a2, a3⟩
  · intro b o hb
    have := h.le b o hb
    rw [he b (h.ltH this)]; exact this
  · rw [he b (Nat.lt_of_lt_of_le hb h.keep.size)]; exact h.ext b hb hb'
theorem Wd.callV {w' : World} (h : Wd X l H w) (hk : Keep All w w') : Wd X l H w' :=
  h.call hk (fun b o hb => (hk.block b (h.ltH hb) trivial).trans (h.fro b o hb)) fun _ _ => rfl
end wd

section ea
variable {X : Cx} {e : Env} {D : List Deferred} {a : Act}

def evE (e : Env) : Operand → Option Value
  | .tmp t => e.get t
  | .const v => some v
  | .global g => some (.pointer (some ⟨g, 0, none⟩))
  | .func f => some (.func (.func f) #[] #[])

theorem Ea.getD (h : Ea X e D a) {i : Nat} {v : Value} (hv : e.get i = some v) : a.tmps.getD i undef = v := by
  have := h.get i v hv
  rw [Array.getD_eq_getD_getElem?, this]; rfl
theorem Ea.eval (h : Ea X e D a) {x : Operand} {v : Value} (hv : evE e x = some v) : a.eval x = v := by
  cases x with
  | tmp t => exact h.getD hv
  | const c => exact Option.some.inj hv
  | global g => exact Option.some.inj hv
  | func f => exact Option.some.inj hv

theorem Ea.put (h : Ea X e D a) {d : Nat} (hd : d < X.N) (v : Value) : Ea X ((d, v) :: e) D (a.put (some d) v) := by
  refine ⟨by simpa [Act.put] using h.size, fun i u hi => ?_, h.dfr⟩
  show (a.tmps.setIfInBounds d v)[i]? = some u
  rw [Array.getElem?_setIfInBounds]
  simp only [Env.get] at hi
  by_cases e' : i = d
  · subst e'
    rw [Nat.beq_refl] at hi
    simp only [cond_true, Option.some.injEq] at hi
    rw [if_pos rfl, if_pos (by rw [h.size]; exact hd), hi]
  · have : Nat.beq i d = false := by rw [Bool.eq_false_iff]; intro hh; exact e' (Nat.eq_of_beq_eq_true hh)
    rw [this] at hi
    rw [if_neg (fun e2 => e' e2.symm)]
    exact h.get i u hi

/-- Fewer facts on the slots. -/
def Env.Sub : Env → Env → Prop
  | [], _ => True
  | (j, v) :: e', e => e.get j = some v ∧ Env.Sub e' e
theorem Env.Sub.spec : ∀ {e' e : Env}, Env.Sub e' e → ∀ i v, e'.get i = some v → e.get i = some v
  | [], _, _, _, _, h => by cases h
  | (j, u) :: e', e, ⟨h1, h2⟩, i, v, h => by
    simp only [Env.get] at h
    by_cases e1 : Nat.beq i j = true
    · rw [e1] at h
      simp only [cond_true, Option.some.injEq] at h
      rw [Nat.eq_of_beq_eq_true e1, ← h]; exact h1
    · have e2 : Nat.beq i j = false := Bool.eq_false_iff.2 e1
      rw [e2] at h
      exact h2.spec i v h
theorem Ea.sub {e' : Env} (h : Ea X e D a) (hs : Env.Sub e' e) : Ea X e' D a := ⟨h.size, fun i v hi => h.get i v (hs.spec i v hi), h.dfr⟩
end ea

section rules
variable {P : Program} {X : Cx} {e : Env} {l : List (Nat × Obj)} {H : Hp} {D : List Deferred} {k : List It}

theorem T.weak {e' : Env} {l' : List (Nat × Obj)} (he : Env.Sub e' e) (hl : List.Sublist l' l) (h : T P X e' l' H D k) : T P X e l H D k :=
  fun a w ha hw => h a w (ha.sub he) (hw.sub hl)
theorem T.perm {l' : List (Nat × Obj)} (hl : l'.Perm l) (h : T P X e l' H D k) : T P X e l H D k := fun a w ha hw => h a w ha (hw.perm hl)
theorem T.freeze {b : Nat} {o : Obj} (h : T P X e l (H.put b o) D k) : T P X e ((b, o) :: l) H D k := fun a w ha hw => h a w ha hw.freeze

theorem T.seq {x y : Code} (h : T P X e l H D (.code x :: .code y :: k)) : T P X e l H D (.code (.seq x y) :: k) := fun a w ha hw => wpK_seq (h a w ha hw)
theorem T.block {id : Nat} {c : Code} (h : T P X e l H D (.code c :: .blk id :: k)) : T P X e l H D (.code (.block id c) :: k) := fun a w ha hw => wpK_block (h a w ha hw)
theorem T.skip (h : T P X e l H D k) : T P X e l H D (.code .skip :: k) := fun a w ha hw => wpK_skip (h a w ha hw)
theorem T.blkEnd {id : Nat} (h : T P X e l H D k) : T P X e l H D (.blk id :: k) := fun a w ha hw => h a w ha hw
theorem T.exit {id : Nat} {k' : List It} (hx : exitK id k = some k') (h : T P X e l H D k') : T P X e l H D (.code (.exit id) :: k) := fun a w ha hw => wpK_exit hx (h a w ha hw)
theorem T.region {id : Nat} {os : List Oper} (h : T P X e l H D (.ops os.toArray os :: k)) : T P X e l H D (.code (.region id os.toArray false) :: k) := fun a w ha hw => wpK_region (h a w ha hw)
theorem T.opsNil {all : Array Oper} (h : T P X e l H D k) : T P X e l H D (.ops all [] :: k) := fun a w ha hw => h a w ha hw
theorem T.cond {c : Operand} {x y : Code} {t : Bool} (hc : evE e c = some (.bool t)) (ht : t = true → T P X e l H D (.code x :: k)) (hf : t = false → T P X e l H D (.code y :: k)) :
    T P X e l H D (.code (.cond c x y) :: k) := fun a w ha hw => by
  refine wpK_cond (ha.eval hc) ?_
  cases t
  · exact hf rfl a w ha hw
  · exact ht rfl a w ha hw
theorem T.condD {c : Operand} {x y : Code} {p : Prop} {i : Decidable p} (hc : evE e c = some (.bool (decide p))) (ht : p → T P X e l H D (.code x :: k)) (hf : ¬ p → T P X e l H D (.code y :: k)) :
    T P X e l H D (.code (.cond c x y) :: k) := T.cond hc (fun h => ht (of_decide_eq_true h)) (fun h => hf (of_decide_eq_false h))
theorem T.condT {c : Operand} {x y : Code} {t : Bool} (hc : evE e c = some (.bool t)) (h : t = true) (ht : T P X e l H D (.code x :: k)) : T P X e l H D (.code (.cond c x y) :: k) :=
  T.cond hc (fun _ => ht) (fun h' => by rw [h] at h'; cases h')
theorem T.condF {c : Operand} {x y : Code} {t : Bool} (hc : evE e c = some (.bool t)) (h : t = false) (hf : T P X e l H D (.code y :: k)) : T P X e l H D (.code (.cond c x y) :: k) :=
  T.cond hc (fun h' => by rw [h] at h'; cases h') (fun _ => hf)
theorem T.ret (h : ∀ a w, Ea X e D a → Wd X l H w → X.Q .ret a w) : T P X e l H D (.code .ret :: k) := fun a w ha hw => wpK_ret (h a w ha hw)
theorem T.fall (h : ∀ a w, Ea X e D a → Wd X l H w → X.Q .normal a w) : T P X e l H D [] := fun a w ha hw => h a w ha hw
theorem T.done {J : Act → World → Prop} (h : ∀ a w, Ea X e D a → Wd X l H w → J a w) : T P X e l H D (.done J :: k) := fun a w ha hw => h a w ha hw

/-- What a round must come to. -/
def LoopJ {γ : Type} (X : Cx) (D : List Deferred) (C : γ → Prop) (eg : γ → Env) (lg : γ → List (Nat × Obj)) (Hg : γ → Hp) (μ : γ → Nat) (g : γ) : Act → World → Prop :=
  fun a w => ∃ g', (C g' ∧ Ea X (eg g') D a ∧ Wd X (lg g') (Hg g') w) ∧ μ g' < μ g
/-- A loop: a ghost g; what holds at its head: 'C g' and the state. -/
theorem T.loop {γ : Type} {body : Code} (C : γ → Prop) (eg : γ → Env) (lg : γ → List (Nat × Obj)) (Hg : γ → Hp) (μ : γ → Nat) (g0 : γ) (h0 : C g0) (he0 : Env.Sub (eg g0) e) (hl0 : List.Sublist (lg g0) l) (hH0 : Hg g0 = H)
    (h : ∀ g, C g → T P X (eg g) (lg g) (Hg g) D (.code body :: .done (LoopJ X D C eg lg Hg μ g) :: k)) :
    T P X e l H D (.code (.loop body) :: k) := fun a w ha hw =>
  wpK_loop (fun g a w => C g ∧ Ea X (eg g) D a ∧ Wd X (lg g) (Hg g) w) μ g0 ⟨h0, ha.sub he0, by rw [hH0]; exact hw.sub hl0⟩ fun g a w ⟨hc, ha, hw⟩ => h g hc a w ha hw
theorem T.next {γ : Type} {C : γ → Prop} {eg : γ → Env} {lg : γ → List (Nat × Obj)} {Hg : γ → Hp} {μ : γ → Nat} {g : γ} (g' : γ) (hc : C g') (hm : μ g' < μ g) (he : Env.Sub (eg g') e) (hl : List.Sublist (lg g') l) (hH : Hg g' = H) :
    T P X e l H D (.done (LoopJ X D C eg lg Hg μ g) :: k) :=
  T.done fun a w ha hw => ⟨g', ⟨hc, ha.sub he, by rw [hH]; exact hw.sub hl⟩, hm⟩

/-! ### Operations -/
def Wanted (e : Env) (all : Array Oper) (o : Oper) : Prop := ∀ (X : Cx) (D : List Deferred) (a : Act), Ea X e D a → Region.wanted o (yielded all a.tmps) = true
def Unwanted (e : Env) (all : Array Oper) (o : Oper) : Prop := ∀ (X : Cx) (D : List Deferred) (a : Act), Ea X e D a → Region.wanted o (yielded all a.tmps) = false
theorem Wanted.none {all : Array Oper} {dst : Option Tmp} {op : Op} {ty : TypeId} {pos : String} {after : Array Edge} : Wanted e all ⟨dst, op, ty, pos, after, none⟩ := fun _ _ _ _ => rfl
theorem yielded_of {D : List Deferred} {a : Act} (ha : Ea X e D a) {all : Array Oper} {j d : Nat} {t : Bool} (hj : (all[j]?).bind (·.dst) = some d) (he : e.get d = some (.bool t)) : yielded all a.tmps j = some t := by
  unfold yielded
  rw [hj]
  simp [ha.get d _ he]
theorem Wanted.guard {all : Array Oper} {dst : Option Tmp} {op : Op} {ty : TypeId} {pos : String} {after : Array Edge} {j d : Nat} {want t : Bool} (hj : (all[j]?).bind (·.dst) = some d) (he : e.get d = some (.bool t)) (ht : t = want) :
    Wanted e all ⟨dst, op, ty, pos, after, some (j, want)⟩ := fun X D a ha => by
  subst ht; simp [Region.wanted, yielded_of ha hj he]
theorem Unwanted.guard {all : Array Oper} {dst : Option Tmp} {op : Op} {ty : TypeId} {pos : String} {after : Array Edge} {j d : Nat} {want t : Bool} (hj : (all[j]?).bind (·.dst) = some d) (he : e.get d = some (.bool t)) (ht : t = !want) :
    Unwanted e all ⟨dst, op, ty, pos, after, some (j, want)⟩ := fun X D a ha => by
  subst ht; simp [Region.wanted, yielded_of ha hj he]
theorem Unwanted.undef {all : Array Oper} {dst : Option Tmp} {op : Op} {ty : TypeId} {pos : String} {after : Array Edge} {j d : Nat} {want : Bool} (hj : (all[j]?).bind (·.dst) = some d) (he : e.get d = some undef) :
    Unwanted e all ⟨dst, op, ty, pos, after, some (j, want)⟩ := fun X D a ha => by
  have : yielded all a.tmps j = none := by
    unfold yielded
    rw [hj]
    simp [ha.get d _ he, Go.undef]
  simp [Region.wanted, this]

/-- What a run is, in a round or not, for all but a deferring operation. -/
theorem run_semAt {ro : Option Nat} {ρ : Operand → Value} {o : Oper} {w w' : World} {nx : Next} (h : (execOp ρ o).run P w = .ok nx w') (hnx : ∀ d, nx ≠ .defer d) : (o.semAt ro ρ).run P w = .ok nx w' := by
  cases ro with
  | none => rw [Oper.semAt_none]; exact h
  | some r =>
    rw [Oper.semAt_some]
    · exact h
    · intro c hc
      unfold execOp at h
      rw [hc] at h
      simp only [Sem.run_bind] at h
      cases hr : (resolve ρ c o.type).run P w with
      | ok d w2 => rw [hr] at h; simp only [Result.andThen_ok, Sem.run_pure] at h; cases h; exact hnx _ rfl
      | halt x w2 => rw [hr] at h; cases h

theorem wpList_cons {ro : Option Nat} {all : Array Oper} {Q : Post} {rest : List Oper} {o : Oper} {a : Act} {w : World} (hw : Region.wanted o (yielded all a.tmps) = true) (h : o.uponIn (Fw ro) 0 P a (wpListIn (Fw ro) 0 P all Q rest) Q ((o.semAt ro a.eval).run P w)) :
    wpListIn (Fw ro) 0 P all Q (o :: rest) a w := by
  simp only [wpListIn, hw, if_true]
  exact ⟨fun _ _ => trivial, h⟩

/-- An operation that only yields a value. -/
def PV (P : Program) (e : Env) (l : List (Nat × Obj)) (H : Hp) (o : Oper) (v : Value) : Prop :=
  ∀ (X : Cx) (D : List Deferred) (a : Act) (w : World), Ea X e D a → Wd X l H w → (execOp a.eval o).run P w = .ok (.value v) w

theorem T.pv {all : Array Oper} {rest : List Oper} {o : Oper} {v : Value} {d : Nat} (hv : PV P e l H o v) (hw : Wanted e all o) (hd : o.dst = some d) (hN : Nat.blt d X.N = true)
    (h : T P X ((d, v) :: e) l H D (.ops all rest :: k)) : T P X e l H D (.ops all (o :: rest) :: k) := fun a w ha hw' => by
  refine wpList_cons (hw X D a ha) ?_
  rw [run_semAt (hv X D a w ha hw') (fun _ => by simp), Oper.uponIn_value, hd]
  exact h _ w (ha.put (by simpa using hN) v) hw'
theorem T.pass {all : Array Oper} {rest : List Oper} {o : Oper} {d : Nat} (hw : Unwanted e all o) (hd : o.dst = some d) (hN : Nat.blt d X.N = true)
    (h : T P X ((d, undef) :: e) l H D (.ops all rest :: k)) : T P X e l H D (.ops all (o :: rest) :: k) := fun a w ha hw' => by
  show wpListIn _ _ _ _ _ _ _ _
  simp only [wpListIn, hw X D a ha]
  refine ⟨fun _ _ => trivial, ?_⟩
  rw [hd]
  exact h _ w (ha.put (by simpa using hN) undef) hw'
theorem T.pass0 {all : Array Oper} {rest : List Oper} {o : Oper} (hw : Unwanted e all o) (hd : o.dst = none)
    (h : T P X e l H D (.ops all rest :: k)) : T P X e l H D (.ops all (o :: rest) :: k) := fun a w ha hw' => by
  show wpListIn _ _ _ _ _ _ _ _
  simp only [wpListIn, hw X D a ha]
  refine ⟨fun _ _ => trivial, ?_⟩
  rw [hd]
  exact h _ w ha hw'
end rules



class IsOne (P : Program) (t : TypeId) : Prop where
  h : ∀ w, (isAgg t).run P w = .ok false w
  s : ∀ w, (sizeOf t).run P w = .ok 1 w
class IsAgg (P : Program) (t : TypeId) (n : outParam Nat) : Prop where
  h : ∀ w, (isAgg t).run P w = .ok true w
  s : ∀ w, (sizeOf t).run P w = .ok n w
class FldAt (P : Program) (s : TypeId) (f : Nat) (off : outParam Nat) : Prop where
  h : ∀ b o w, (Instr.fieldAt s (.pointer (some ⟨b, o, none⟩)) f).run P w = .ok (.pointer (some ⟨b, o + off, none⟩)) w
class SlOf (P : Program) (t : TypeId) (elem sz : outParam Nat) : Prop where
  h : P.underlying t = some (.slice elem)
  s : ∀ w, (sizeOf elem).run P w = .ok sz w
class StrT (P : Program) (t : TypeId) : Prop where
  h : P.underlying t = some .string
class IntT (P : Program) (t : TypeId) (k : outParam IntKind) : Prop where
  h : P.underlying t = some (.int k)
class BoolT (P : Program) (t : TypeId) : Prop where
  h : P.underlying t = some .bool
class ZeroOf (P : Program) (t : TypeId) (z : outParam (List Value)) : Prop where
  h : ∃ v, (∀ w, (zeroValue t).run P w = .ok v w) ∧ v.cells = z.toArray
class PlacesOf (P : Program) (t : TypeId) (pl : outParam (List (Nat × Nat))) (z : outParam (List Value)) : Prop where
  h : ∀ parts : Array (Nat × Value), ∀ w, (Instr.build t parts).run P w = (match Instr.fill (pl[·]?) z.toArray parts.toList with | some cells => .ok (.agg cells) w | none => .halt (.stuck "build: no such field, or a part of the wrong size") w)

def SomeObj (l : List (Nat × Obj)) (H : Hp) (b : Nat) (o : Obj) : Prop := (b, o) ∈ l ∨ H b = some o

section
variable {P : Program} {e : Env} {l : List (Nat × Obj)} {H : Hp}
variable {dst : Option Tmp} {ty : TypeId} {pos : String} {after : Array Edge} {gd : Option (Nat × Bool)}

theorem SomeObj.own {b : Nat} {o : Obj} (h : (b, o) ∈ l) : SomeObj l H b o := .inl h
theorem SomeObj.fro {b : Nat} {o : Obj} (h : H b = some o) : SomeObj l H b o := .inr h
theorem SomeObj.heap {X : Cx} {w : World} {b : Nat} {o : Obj} (h : SomeObj l H b o) (hw : Wd X l H w) : w.heap[b]? = some o := by
  rcases h with h | h
  · exact (hw.own _ h).1
  · exact hw.fro _ _ h

theorem PV.move {x : Operand} {v : Value} (hx : evE e x = some v) : PV P e l H ⟨dst, .move x, ty, pos, after, gd⟩ v := fun X D a w ha hw => by
  simp [execOp, ha.eval hx]
theorem PV.assign {x : Operand} {v : Value} (hx : evE e x = some v) : PV P e l H ⟨dst, .assign x, ty, pos, after, gd⟩ v := fun X D a w ha hw => by
  simp [execOp, ha.eval hx]
theorem PV.pickT {c x y : Operand} {t : Bool} {v : Value} (hc : evE e c = some (.bool t)) (ht : t = true) (hx : evE e x = some v) : PV P e l H ⟨dst, .pick c x y, ty, pos, after, gd⟩ v := fun X D a w ha hw => by
  subst ht; simp [execOp, ha.eval hc, ha.eval hx, asBool]
theorem PV.pickF {c x y : Operand} {t : Bool} {v : Value} (hc : evE e c = some (.bool t)) (ht : t = false) (hx : evE e y = some v) : PV P e l H ⟨dst, .pick c x y, ty, pos, after, gd⟩ v := fun X D a w ha hw => by
  subst ht; simp [execOp, ha.eval hc, ha.eval hx, asBool]

theorem wrap64_id {n : Int} (h : -9223372036854775808 ≤ n ∧ n ≤ 9223372036854775807) : IntKind.i64.wrap n = n := IntWalk.i64_in _ (by omega)

theorem PV.add {x y : Operand} {t t' : TypeId} {m n : Int} (hx : evE e x = some (.int .i64 m)) (hy : evE e y = some (.int .i64 n)) (hr : -9223372036854775808 ≤ m + n ∧ m + n ≤ 9223372036854775807) :
    PV P e l H ⟨dst, .binOp .add t x y t', ty, pos, after, gd⟩ (.int .i64 (m + n)) := fun X D a w ha hw => by
  simp [execOp, ha.eval hx, ha.eval hy, binOp, eqGuard, Op.intArith, wrap64_id hr]
theorem PV.sub {x y : Operand} {t t' : TypeId} {m n : Int} (hx : evE e x = some (.int .i64 m)) (hy : evE e y = some (.int .i64 n)) (hr : -9223372036854775808 ≤ m - n ∧ m - n ≤ 9223372036854775807) :
    PV P e l H ⟨dst, .binOp .sub t x y t', ty, pos, after, gd⟩ (.int .i64 (m - n)) := fun X D a w ha hw => by
  simp [execOp, ha.eval hx, ha.eval hy, binOp, eqGuard, Op.intArith, wrap64_id hr]
theorem PV.mul {x y : Operand} {t t' : TypeId} {m n : Int} (hx : evE e x = some (.int .i64 m)) (hy : evE e y = some (.int .i64 n)) (hr : -9223372036854775808 ≤ m * n ∧ m * n ≤ 9223372036854775807) :
    PV P e l H ⟨dst, .binOp .mul t x y t', ty, pos, after, gd⟩ (.int .i64 (m * n)) := fun X D a w ha hw => by
  simp [execOp, ha.eval hx, ha.eval hy, binOp, eqGuard, Op.intArith, wrap64_id hr]
theorem wrap32_id {n : Int} (h : -2147483648 ≤ n ∧ n ≤ 2147483647) : IntKind.i32.wrap n = n := IntWalk.i32_in _ (by omega)
theorem PV.add32 {x y : Operand} {t t' : TypeId} {m n : Int} (hx : evE e x = some (.int .i32 m)) (hy : evE e y = some (.int .i32 n)) (hr : -2147483648 ≤ m + n ∧ m + n ≤ 2147483647) :
    PV P e l H ⟨dst, .binOp .add t x y t', ty, pos, after, gd⟩ (.int .i32 (m + n)) := fun X D a w ha hw => by
  simp [execOp, ha.eval hx, ha.eval hy, binOp, eqGuard, Op.intArith, wrap32_id hr]
theorem PV.sub32 {x y : Operand} {t t' : TypeId} {m n : Int} (hx : evE e x = some (.int .i32 m)) (hy : evE e y = some (.int .i32 n)) (hr : -2147483648 ≤ m - n ∧ m - n ≤ 2147483647) :
    PV P e l H ⟨dst, .binOp .sub t x y t', ty, pos, after, gd⟩ (.int .i32 (m - n)) := fun X D a w ha hw => by
  simp [execOp, ha.eval hx, ha.eval hy, binOp, eqGuard, Op.intArith, wrap32_id hr]
theorem PV.addK {x y : Operand} {t t' : TypeId} {k : IntKind} {m n : Int} (hx : evE e x = some (.int k m)) (hy : evE e y = some (.int k n)) :
    PV P e l H ⟨dst, .binOp .add t x y t', ty, pos, after, gd⟩ (.int k (k.wrap (m + n))) := fun X D a w ha hw => by
  simp [execOp, ha.eval hx, ha.eval hy, binOp, eqGuard, Op.intArith]
theorem PV.subK {x y : Operand} {t t' : TypeId} {k : IntKind} {m n : Int} (hx : evE e x = some (.int k m)) (hy : evE e y = some (.int k n)) :
    PV P e l H ⟨dst, .binOp .sub t x y t', ty, pos, after, gd⟩ (.int k (k.wrap (m - n))) := fun X D a w ha hw => by
  simp [execOp, ha.eval hx, ha.eval hy, binOp, eqGuard, Op.intArith]
theorem PV.mulK {x y : Operand} {t t' : TypeId} {k : IntKind} {m n : Int} (hx : evE e x = some (.int k m)) (hy : evE e y = some (.int k n)) :
    PV P e l H ⟨dst, .binOp .mul t x y t', ty, pos, after, gd⟩ (.int k (k.wrap (m * n))) := fun X D a w ha hw => by
  simp [execOp, ha.eval hx, ha.eval hy, binOp, eqGuard, Op.intArith]
theorem PV.lss {x y : Operand} {t t' : TypeId} {k : IntKind} {m n : Int} (hx : evE e x = some (.int k m)) (hy : evE e y = some (.int k n)) :
    PV P e l H ⟨dst, .binOp .lss t x y t', ty, pos, after, gd⟩ (.bool (decide (m < n))) := fun X D a w ha hw => by
  simp [execOp, ha.eval hx, ha.eval hy, binOp, eqGuard, Op.intCmp]
theorem PV.leq {x y : Operand} {t t' : TypeId} {k : IntKind} {m n : Int} (hx : evE e x = some (.int k m)) (hy : evE e y = some (.int k n)) :
    PV P e l H ⟨dst, .binOp .leq t x y t', ty, pos, after, gd⟩ (.bool (decide (m ≤ n))) := fun X D a w ha hw => by
  simp [execOp, ha.eval hx, ha.eval hy, binOp, eqGuard, Op.intCmp]
theorem PV.gtr {x y : Operand} {t t' : TypeId} {k : IntKind} {m n : Int} (hx : evE e x = some (.int k m)) (hy : evE e y = some (.int k n)) :
    PV P e l H ⟨dst, .binOp .gtr t x y t', ty, pos, after, gd⟩ (.bool (decide (n < m))) := fun X D a w ha hw => by
  simp [execOp, ha.eval hx, ha.eval hy, binOp, eqGuard, Op.intCmp]
theorem PV.geq {x y : Operand} {t t' : TypeId} {k : IntKind} {m n : Int} (hx : evE e x = some (.int k m)) (hy : evE e y = some (.int k n)) :
    PV P e l H ⟨dst, .binOp .geq t x y t', ty, pos, after, gd⟩ (.bool (decide (n ≤ m))) := fun X D a w ha hw => by
  simp [execOp, ha.eval hx, ha.eval hy, binOp, eqGuard, Op.intCmp]
theorem PV.eql {x y : Operand} {t t' : TypeId} {k : IntKind} {m n : Int} (hx : evE e x = some (.int k m)) (hy : evE e y = some (.int k n)) :
    PV P e l H ⟨dst, .binOp .eql t x y t', ty, pos, after, gd⟩ (.bool (decide (m = n))) := fun X D a w ha hw => by
  have : (m == n) = decide (m = n) := rfl
  simp [execOp, ha.eval hx, ha.eval hy, this, eqGuard_at_int, binOp_eql, binOp_neq]
theorem PV.neq {x y : Operand} {t t' : TypeId} {k : IntKind} {m n : Int} (hx : evE e x = some (.int k m)) (hy : evE e y = some (.int k n)) :
    PV P e l H ⟨dst, .binOp .neq t x y t', ty, pos, after, gd⟩ (.bool (decide (m ≠ n))) := fun X D a w ha hw => by
  have : (m != n) = decide (m ≠ n) := by by_cases h : m = n <;> simp [h]
  simp [execOp, ha.eval hx, ha.eval hy, this, eqGuard_at_int, binOp_eql, binOp_neq]
theorem ba_eq {s t : ByteArray} : (s.toList == t.toList) = decide (s = t) := by
  rw [ByteArray.toList_eq, ByteArray.toList_eq]
  by_cases h : s = t
  · subst h; simp
  · have : ¬ s.data.toList = t.data.toList := fun h' => h (by cases s; cases t; simp at h'; simp [h'])
    simp [h]
    simpa using this
theorem PV.seql {x y : Operand} {t t' : TypeId} {m n : ByteArray} (hx : evE e x = some (.string m)) (hy : evE e y = some (.string n)) :
    PV P e l H ⟨dst, .binOp .eql t x y t', ty, pos, after, gd⟩ (.bool (decide (m = n))) := fun X D a w ha hw => by
  simp [execOp, ha.eval hx, ha.eval hy, eqGuard_at_string, binOp_string_eql, binOp_string_neq, binOp_string_lss, ba_eq]
theorem PV.sneq {x y : Operand} {t t' : TypeId} {m n : ByteArray} (hx : evE e x = some (.string m)) (hy : evE e y = some (.string n)) :
    PV P e l H ⟨dst, .binOp .neq t x y t', ty, pos, after, gd⟩ (.bool (decide (m ≠ n))) := fun X D a w ha hw => by
  simp [execOp, ha.eval hx, ha.eval hy, eqGuard_at_string, binOp_string_eql, binOp_string_neq, binOp_string_lss, ba_eq]
theorem PV.slss {x y : Operand} {t t' : TypeId} {m n : ByteArray} (hx : evE e x = some (.string m)) (hy : evE e y = some (.string n)) :
    PV P e l H ⟨dst, .binOp .lss t x y t', ty, pos, after, gd⟩ (.bool (Op.bytesLess m.data.toList n.data.toList)) := fun X D a w ha hw => by
  simp [execOp, ha.eval hx, ha.eval hy, eqGuard_at_string, binOp_string_lss, ByteArray.toList_eq]
theorem PV.sgtr {x y : Operand} {t t' : TypeId} {m n : ByteArray} (hx : evE e x = some (.string m)) (hy : evE e y = some (.string n)) :
    PV P e l H ⟨dst, .binOp .gtr t x y t', ty, pos, after, gd⟩ (.bool (!(Op.bytesLess m.data.toList n.data.toList || decide (m = n)))) := fun X D a w ha hw => by
  simp only [← ByteArray.toList_eq]
  simp [execOp, ha.eval hx, ha.eval hy, binOp, eqGuard, Op.stringOp, ba_eq]
theorem PV.sadd {x y : Operand} {t t' : TypeId} {m n : ByteArray} (hx : evE e x = some (.string m)) (hy : evE e y = some (.string n)) (hs : m.size + n.size ≤ 9223372036854775807) :
    PV P e l H ⟨dst, .binOp .add t x y t', ty, pos, after, gd⟩ (.string (m ++ n)) := fun X D a w ha hw => by
  have : ¬ (9223372036854775807 < (m.size : Int) + n.size) := by omega
  simp [execOp, ha.eval hx, ha.eval hy, binOp, eqGuard, Op.stringOp, this]
theorem PV.beql {t : TypeId} [ht : BoolT P t] {x y : Operand} {t' : TypeId} {m n : Bool} (hx : evE e x = some (.bool m)) (hy : evE e y = some (.bool n)) :
    PV P e l H ⟨dst, .binOp .eql t x y t', ty, pos, after, gd⟩ (.bool (m == n)) := fun X D a w ha hw => by
  simp [execOp, ha.eval hx, ha.eval hy, eqGuard_at_bool, run_eql_bool w t m n ht.h]
theorem PV.bneq {t : TypeId} [ht : BoolT P t] {x y : Operand} {t' : TypeId} {m n : Bool} (hx : evE e x = some (.bool m)) (hy : evE e y = some (.bool n)) :
    PV P e l H ⟨dst, .binOp .neq t x y t', ty, pos, after, gd⟩ (.bool (!(m == n))) := fun X D a w ha hw => by
  simp [execOp, ha.eval hx, ha.eval hy, eqGuard_at_bool, run_neq_bool w t m n ht.h]
theorem PV.not {x : Operand} {t : TypeId} {m : Bool} (hx : evE e x = some (.bool m)) : PV P e l H ⟨dst, .unOp .not t x, ty, pos, after, gd⟩ (.bool (!m)) := fun X D a w ha hw => by
  simp [execOp, ha.eval hx, Op.unary]
theorem PV.neg {x : Operand} {t : TypeId} {m : Int} (hx : evE e x = some (.int .i64 m)) (hr : -9223372036854775807 ≤ m ∧ m ≤ 9223372036854775807) : PV P e l H ⟨dst, .unOp .neg t x, ty, pos, after, gd⟩ (.int .i64 (-m)) := fun X D a w ha hw => by
  have : IntKind.i64.wrap (0 - m) = -m := by rw [show (0 - m) = -m by omega]; exact wrap64_id (by omega)
  simp only [execOp, ha.eval hx, Op.unary, Op.intArith, Sem.run_bind, Sem.run_pure, Result.andThen_ok, this]

theorem PV.conv64 {s t : TypeId} {ks : IntKind} [hs : IntT P s ks] [ht : IntT P t .i64] {x : Operand} {k : IntKind} {m : Int} (hx : evE e x = some (.int k m)) (hr : -9223372036854775808 ≤ m ∧ m ≤ 9223372036854775807) :
    PV P e l H ⟨dst, .convert s t x, ty, pos, after, gd⟩ (.int .i64 m) := fun X D a w ha hw => by
  simp [execOp, ha.eval hx, convert, run_underlying hs.h, run_underlying ht.h, Conv.intToInt, wrap64_id hr]
theorem PV.convK {s t : TypeId} {ks kt : IntKind} [hs : IntT P s ks] [ht : IntT P t kt] {x : Operand} {k : IntKind} {m : Int} (hx : evE e x = some (.int k m)) :
    PV P e l H ⟨dst, .convert s t x, ty, pos, after, gd⟩ (.int kt (kt.wrap m)) := fun X D a w ha hw => by
  simp [execOp, ha.eval hx, convert, run_underlying hs.h, run_underlying ht.h, Conv.intToInt]
theorem PV.convRune {s t : TypeId} {ks : IntKind} [hs : IntT P s ks] [ht : StrT P t] {x : Operand} {k : IntKind} {m : Int} (hx : evE e x = some (.int k m)) :
    PV P e l H ⟨dst, .convert s t x, ty, pos, after, gd⟩ (.string (Utf8.encode m)) := fun X D a w ha hw => by
  simp [execOp, ha.eval hx, convert, run_underlying hs.h, run_underlying ht.h, Conv.intToString]
theorem PV.convStr {s t : TypeId} [hs : StrT P s] [ht : StrT P t] {x : Operand} {m : ByteArray} (hx : evE e x = some (.string m)) :
    PV P e l H ⟨dst, .convert s t x, ty, pos, after, gd⟩ (.string m) := fun X D a w ha hw => by
  simp [execOp, ha.eval hx, convert, run_underlying hs.h, run_underlying ht.h]

theorem PV.fieldAddr {s : TypeId} {f off : Nat} [h : FldAt P s f off] {x : Operand} {b o : Nat} (hx : evE e x = some (.pointer (some ⟨b, o, none⟩))) :
    PV P e l H ⟨dst, .fieldAddr s x f, ty, pos, after, gd⟩ (.pointer (some ⟨b, o + off, none⟩)) := fun X D a w ha hw => by
  simp [execOp, ha.eval hx, h.h]
theorem PV.lenStr {t : TypeId} [h : StrT P t] {x : Operand} {s : ByteArray} (hx : evE e x = some (.string s)) :
    PV P e l H ⟨dst, .call ⟨.builtin .len, #[x], #[t]⟩, ty, pos, after, gd⟩ (.int .i64 (s.size : Int)) := fun X D a w ha hw => by
  simp [execOp, resolve, invoke, builtin, ha.eval hx, Builtin.len_, run_underlying h.h, goInt]
theorem PV.lenSl {t : TypeId} {el sz : Nat} [h : SlOf P t el sz] {x : Operand} {ad : Option Addr} {n c : Nat} (hx : evE e x = some (.slice ad n c)) :
    PV P e l H ⟨dst, .call ⟨.builtin .len, #[x], #[t]⟩, ty, pos, after, gd⟩ (.int .i64 (n : Int)) := fun X D a w ha hw => by
  simp [execOp, resolve, invoke, builtin, ha.eval hx, Builtin.len_, run_underlying h.h, goInt]
theorem PV.min2 {x y : Operand} {ts : Array TypeId} {k : IntKind} {m n : Int} (hx : evE e x = some (.int k m)) (hy : evE e y = some (.int k n)) :
    PV P e l H ⟨dst, .call ⟨.builtin .min, #[x, y], ts⟩, ty, pos, after, gd⟩ (.int k (min m n)) := fun X D a w ha hw => by
  have : (if n < m then n else m) = min m n := by split <;> omega
  simp [execOp, resolve, invoke, builtin, ha.eval hx, ha.eval hy, run_min_int2, this]
theorem PV.max2 {x y : Operand} {ts : Array TypeId} {k : IntKind} {m n : Int} (hx : evE e x = some (.int k m)) (hy : evE e y = some (.int k n)) :
    PV P e l H ⟨dst, .call ⟨.builtin .max, #[x, y], ts⟩, ty, pos, after, gd⟩ (.int k (max m n)) := fun X D a w ha hw => by
  have : (if n > m then n else m) = max m n := by split <;> omega
  simp [execOp, resolve, invoke, builtin, ha.eval hx, ha.eval hy, run_max_int2, this]
theorem PV.extract {x : Operand} {i : Nat} {vs : List Value} {v : Value} (hx : evE e x = some (.tuple vs.toArray)) (hv : vs[i]? = some v) : PV P e l H ⟨dst, .extract x i, ty, pos, after, gd⟩ v := fun X D a w ha hw => by
  simp [execOp, ha.eval hx, Instr.extract, hv]
theorem PV.makeFunc {fn : Fn} {os : List Operand} {vs : List Value} (hx : os.mapM (evE e) = some vs) : PV P e l H ⟨dst, .makeFunc fn #[] os.toArray, ty, pos, after, gd⟩ (.func fn #[] vs.toArray) := fun X D a w ha hw => by
  have hm : ∀ (os : List Operand) (vs : List Value), os.mapM (evE e) = some vs → os.map a.eval = vs := by
    intro os
    induction os with
    | nil => intro vs h; simp at h; simp [h]
    | cons o os ih =>
      intro vs h
      rw [List.mapM_cons] at h
      cases h1 : evE e o with
      | none => rw [h1] at h; cases h
      | some v =>
        rw [h1] at h
        cases h2 : os.mapM (evE e) with
        | none => rw [h2] at h; cases h
        | some us => rw [h2] at h; simp at h; subst h; simp [ha.eval h1, ih us h2]
  simp [execOp, Instr.makeFunc, hm os vs hx]

theorem ByteArray.getIdx {s : ByteArray} {i : Nat} {c : UInt8} (h : s.data.toList[i]? = some c) : s[i]? = some c := by
  have hi : i < s.data.toList.length := (List.getElem?_eq_some_iff.1 h).1
  rw [ByteArray.getElem?_lt' s i (by simpa using hi)]
  rw [← h]
  simp at hi
  simp [hi]; rfl
theorem PV.indexStr {t : TypeId} [h : StrT P t] {x y : Operand} {s : ByteArray} {k : IntKind} {i : Int} {c : UInt8} (hx : evE e x = some (.string s)) (hy : evE e y = some (.int k i)) (hi : 0 ≤ i) (hc : s.data.toList[i.toNat]? = some c) :
    PV P e l H ⟨dst, .index t x y, ty, pos, after, gd⟩ (.int .u8 (c.toNat : Int)) := fun X D a w ha hw => by
  simp [execOp, ha.eval hx, ha.eval hy, Instr.index, asIntOf, run_underlying h.h, hi, ByteArray.getIdx hc]
theorem PV.sliceStr {t : TypeId} [h : StrT P t] {x y z : Operand} {s : ByteArray} {m n : Int} (hx : evE e x = some (.string s)) (hy : evE e y = some (.int .i64 m)) (hz : evE e z = some (.int .i64 n)) (h0 : 0 ≤ m ∧ m ≤ n ∧ n ≤ s.size) :
    PV P e l H ⟨dst, .slice t x (some y) (some z) none, ty, pos, after, gd⟩ (.string (s.extract m.toNat n.toNat)) := fun X D a w ha hw => by
  have e1 : 0 ≤ n ∧ n ≤ (s.size : Int) := by omega
  have e2 : 0 ≤ m ∧ m ≤ (n.toNat : Int) := by omega
  have e3 : max n 0 = n := by omega
  simp [execOp, ha.eval hx, ha.eval hy, ha.eval hz, run_sliceAt_string _ _ _ _ _ _ h.h, Instr.slice, run_underlying h.h, Instr.sliceBounds, Instr.sliceBound, asIntOf, e1, e2, e3, h0]
theorem PV.sliceStrL {t : TypeId} [h : StrT P t] {x y : Operand} {s : ByteArray} {m : Int} (hx : evE e x = some (.string s)) (hy : evE e y = some (.int .i64 m)) (h0 : 0 ≤ m ∧ m ≤ s.size) :
    PV P e l H ⟨dst, .slice t x (some y) none none, ty, pos, after, gd⟩ (.string (s.extract m.toNat s.size)) := fun X D a w ha hw => by
  simp [execOp, ha.eval hx, ha.eval hy, run_sliceAt_string _ _ _ _ _ _ h.h, Instr.slice, run_underlying h.h, Instr.sliceBounds, Instr.sliceBound, asIntOf, h0]
theorem PV.sliceStrH {t : TypeId} [h : StrT P t] {x y : Operand} {s : ByteArray} {m : Int} (hx : evE e x = some (.string s)) (hy : evE e y = some (.int .i64 m)) (h0 : 0 ≤ m ∧ m ≤ s.size) :
    PV P e l H ⟨dst, .slice t x none (some y) none, ty, pos, after, gd⟩ (.string (s.extract 0 m.toNat)) := fun X D a w ha hw => by
  simp [execOp, ha.eval hx, ha.eval hy, run_sliceAt_string _ _ _ _ _ _ h.h, Instr.slice, run_underlying h.h, Instr.sliceBounds, Instr.sliceBound, asIntOf, h0]

theorem cell_of {w : World} {b o : Nat} {cs : List Value} {t : TypeId} {fz : Nat × Nat} (h : w.heap[b]? = some (.cells cs.toArray t fz)) : w.cell? ⟨b, o, none⟩ = cs[o]? := by
  simp [World.cell?, h]
theorem PV.load1 {t t' : TypeId} [h : IsOne P t] {x : Operand} {b o : Nat} {cs : List Value} {fz : Nat × Nat} {v : Value} (hx : evE e x = some (.pointer (some ⟨b, o, none⟩))) (hb : SomeObj l H b (.cells cs.toArray t' fz)) (hc : cs[o]? = some v) :
    PV P e l H ⟨dst, .load t x, ty, pos, after, gd⟩ v := fun X D a w ha hw => by
  have h1 : w.cell? ⟨b, o, none⟩ = some v := (cell_of (hb.heap hw)).trans hc
  simp [execOp, ha.eval hx, Instr.loadAt, Instr.sureAddr, loadVar, h.h, run_load, h1]
theorem run_loadCells_of {w : World} {b o n : Nat} {cs vs : List Value} {t : TypeId} {fz : Nat × Nat} (h : w.heap[b]? = some (.cells cs.toArray t fz)) (hv : (cs.drop o).take n = vs) (hn : vs.length = n) : (loadCells ⟨b, o, none⟩ n).run P w = .ok vs.toArray w := by
  subst hn
  refine run_loadCells_list w ⟨b, o, none⟩ vs ?_
  intro j v hj
  have : (⟨b, o, none⟩ : Addr).add j = ⟨b, o + j, none⟩ := by unfold Addr.add; split <;> simp_all
  rw [this, cell_of h]
  have hl := (List.getElem?_eq_some_iff.1 hj).1
  rw [← hv, List.getElem?_take, if_pos hl, List.getElem?_drop] at hj
  exact hj
theorem PV.loadAgg {t t' : TypeId} {n : Nat} [h : IsAgg P t n] {x : Operand} {b o : Nat} {cs vs : List Value} {fz : Nat × Nat} (hx : evE e x = some (.pointer (some ⟨b, o, none⟩))) (hb : SomeObj l H b (.cells cs.toArray t' fz)) (hv : (cs.drop o).take n = vs) (hn : vs.length = n) :
    PV P e l H ⟨dst, .load t x, ty, pos, after, gd⟩ (.agg vs.toArray) := fun X D a w ha hw => by
  simp [execOp, ha.eval hx, Instr.loadAt, Instr.sureAddr, loadVar, h.h, h.s, run_loadCells_of (P := P) (hb.heap hw) hv hn]
/-- a whole struct variable -/
theorem PV.loadAll {t t' : TypeId} {n : Nat} [h : IsAgg P t n] {x : Operand} {b : Nat} {cs : List Value} {fz : Nat × Nat} (hx : evE e x = some (.pointer (some ⟨b, 0, none⟩))) (hb : SomeObj l H b (.cells cs.toArray t' fz)) (hn : Nat.beq cs.length n = true) :
    PV P e l H ⟨dst, .load t x, ty, pos, after, gd⟩ (.agg cs.toArray) :=
  PV.loadAgg hx hb (by rw [List.drop_zero]; exact List.take_of_length_le (Nat.le_of_eq (Nat.eq_of_beq_eq_true hn))) (Nat.eq_of_beq_eq_true hn)
theorem PV.indexAddr {t : TypeId} {el sz : Nat} [h : SlOf P t el sz] {x y : Operand} {b o : Nat} {n c : Nat} {k : IntKind} {i : Int} (hx : evE e x = some (.slice (some ⟨b, o, none⟩) n c)) (hy : evE e y = some (.int k i)) (hi : 0 ≤ i ∧ i < n) :
    PV P e l H ⟨dst, .indexAddr t x y, ty, pos, after, gd⟩ (.pointer (some ⟨b, o + i.toNat * sz, none⟩)) := fun X D a w ha hw => by
  have : (⟨b, o, none⟩ : Addr).add (i.toNat * sz) = ⟨b, o + i.toNat * sz, none⟩ := by unfold Addr.add; split <;> simp_all
  simp [execOp, ha.eval hx, ha.eval hy, Instr.indexAt, asIntOf, run_underlying h.h, h.s, hi, this]

/-- Some cells in the midst of others are other ones. -/
inductive Splice : List Value → Nat → List Value → List Value → Prop
  | nil {c} : Splice c 0 [] c
  | cons {x c v vs c'} : Splice c 0 vs c' → Splice (x :: c) 0 (v :: vs) (v :: c')
  | skip {x c n vs c'} : Splice c n vs c' → Splice (x :: c) (n + 1) vs (x :: c')
inductive CellsR : Value → List Value → Prop
  | agg {cs} : CellsR (.agg cs.toArray) cs
  | one {v} (h : v.oneCell' = true) : CellsR v [v]
inductive FillR (pl : List (Nat × Nat)) : List Value → List (Nat × Value) → List Value → Prop
  | nil {z} : FillR pl z [] z
  | cons {z i v rest off sz vs z' z''} (h1 : pl[i]? = some (off, sz)) (h2 : CellsR v vs) (h3 : Nat.beq vs.length sz = true) (h4 : Splice z off vs z') (h5 : FillR pl z' rest z'') : FillR pl z ((i, v) :: rest) z''

theorem Splice.spec {c : List Value} {n : Nat} {vs c' : List Value} (h : Splice c n vs c') : n + vs.length ≤ c.length ∧ c'.length = c.length ∧ c' = c.take n ++ vs ++ c.drop (n + vs.length) := by
  induction h with
  | nil => simp
  | cons _ ih => obtain ⟨h1, h2, h3⟩ := ih; refine ⟨by simp; omega, by simp [h2], by simp [h3]⟩
  | @skip x c n vs c' _ ih =>
    obtain ⟨h1, h2, h3⟩ := ih
    refine ⟨by simp; omega, by simp [h2], ?_⟩
    rw [show n + 1 + vs.length = (n + vs.length) + 1 by omega]
    simp [h3]
theorem CellsR.cells {v : Value} {vs : List Value} (h : CellsR v vs) : v.cells = vs.toArray := by
  cases h with
  | agg => rfl
  | one h => cases v <;> first | rfl | (simp [Value.oneCell'] at h)
theorem splice_fold (vs : List Value) : ∀ (c : List Value) (off j : Nat), off + j + vs.length ≤ c.length →
    ((vs.zipIdx j).foldl (fun cs (p : Value × Nat) => cs.setIfInBounds (off + p.2) p.1) c.toArray) = (c.take (off + j) ++ vs ++ c.drop (off + j + vs.length)).toArray := by
  induction vs with
  | nil => intro c off j _; simp
  | cons v vs ih =>
    intro c off j h
    simp only [List.length_cons] at h
    simp only [List.zipIdx_cons, List.foldl_cons]
    have : (c.toArray.setIfInBounds (off + j) v) = (c.set (off + j) v).toArray := by simp
    rw [this, ih (c.set (off + j) v) off (j + 1) (by simp; omega)]
    congr 1
    apply List.ext_getElem?
    intro i
    simp only [List.getElem?_append, List.getElem?_take, List.getElem?_drop, List.getElem?_set, List.length_append, List.length_take, List.length_set, List.length_cons]
    by_cases h1 : i < off + j
    · have a1 : i < off + (j + 1) := by omega
      have a2 : ¬ off + j = i := by omega
      have a3 : i < min (off + (j + 1)) c.length + vs.length := by omega
      have a4 : i < min (off + (j + 1)) c.length := by omega
      have a5 : i < min (off + j) c.length := by omega
      have a6 : i < min (off + j) c.length + (vs.length + 1) := by omega
      simp [h1, a1, a2, a3, a4, a5, a6]
    · by_cases h2 : i = off + j
      · subst h2
        have a3 : off + j < min (off + (j + 1)) c.length + vs.length := by omega
        have a4 : off + j < min (off + (j + 1)) c.length := by omega
        have a5 : ¬ off + j < min (off + j) c.length := by omega
        have a6 : off + j < min (off + j) c.length + (vs.length + 1) := by omega
        have a7 : off + j < off + (j + 1) := by omega
        have a8 : off + j < c.length := by omega
        have a9 : off + j - min (off + j) c.length = 0 := by omega
        simp [a3, a4, a5, a6, a7, a8, a9]
      · by_cases h3 : i < off + j + 1 + vs.length
        · have a3 : i < min (off + (j + 1)) c.length + vs.length := by omega
          have a4 : ¬ i < min (off + (j + 1)) c.length := by omega
          have a5 : ¬ i < min (off + j) c.length := by omega
          have a6 : i < min (off + j) c.length + (vs.length + 1) := by omega
          obtain ⟨q, hq⟩ : ∃ q, i - min (off + j) c.length = q + 1 := ⟨i - min (off + j) c.length - 1, by omega⟩
          have a9 : i - min (off + (j + 1)) c.length = q := by omega
          simp [a3, a4, a5, a6, hq, a9]
        · have a3 : ¬ i < min (off + (j + 1)) c.length + vs.length := by omega
          have a6 : ¬ i < min (off + j) c.length + (vs.length + 1) := by omega
          have a7 : ¬ off + j = off + (j + 1) + vs.length + (i - (min (off + (j + 1)) c.length + vs.length)) := by omega
          have a8 : off + (j + 1) + vs.length + (i - (min (off + (j + 1)) c.length + vs.length)) = off + j + (vs.length + 1) + (i - (min (off + j) c.length + (vs.length + 1))) := by omega
          simp only [a3, a6, if_false, a7]
          rw [a8]
theorem FillR.fill {pl : List (Nat × Nat)} {z : List Value} {parts : List (Nat × Value)} {z' : List Value} (h : FillR pl z parts z') : Instr.fill (pl[·]?) z.toArray parts = some z'.toArray := by
  induction h with
  | nil => rfl
  | @cons z i v rest off sz vs z1 z2 h1 h2 h3 h4 _ ih =>
    obtain ⟨s1, s2, s3⟩ := h4.spec
    have hs := Nat.eq_of_beq_eq_true h3
    have hsz : v.cells.size = vs.length := by rw [h2.cells]; simp
    simp only [Instr.fill, h1]
    rw [if_neg (by simp [hsz, hs]; omega)]
    have : v.cells.zipIdx.foldl (fun cs (p : Value × Nat) => cs.setIfInBounds (off + p.2) p.1) z.toArray = z1.toArray := by
      rw [h2.cells]
      have := splice_fold vs z off 0 (by omega)
      simp only [Nat.add_zero] at this
      rw [s3, ← this]
      simp [← Array.foldl_toList]
    rw [← ih, ← this]
def evParts (e : Env) : List (Nat × Operand) → Option (List (Nat × Value))
  | [] => some []
  | (i, x) :: ps => (evE e x).bind fun v => (evParts e ps).bind fun vs => some ((i, v) :: vs)
theorem evParts_map {X : Cx} {D : List Deferred} {a : Act} (ha : Ea X e D a) : ∀ (ps : List (Nat × Operand)) (vs : List (Nat × Value)), evParts e ps = some vs → ps.map (fun p => (p.1, a.eval p.2)) = vs
  | [], vs, h => by simp [evParts] at h; simp [h]
  | (i, x) :: ps, vs, h => by
    simp only [evParts] at h
    cases h1 : evE e x with
    | none => rw [h1] at h; cases h
    | some v =>
      rw [h1] at h
      cases h2 : evParts e ps with
      | none => rw [h2] at h; cases h
      | some us => rw [h2] at h; simp at h; subst h; simp [ha.eval h1]; have := evParts_map ha ps us h2; simpa using this
theorem PV.build {t : TypeId} {pl : List (Nat × Nat)} {z : List Value} [h : PlacesOf P t pl z] {ps : List (Nat × Operand)} {vs : List (Nat × Value)} {cs : List Value} (hp : evParts e ps = some vs) (hf : FillR pl z vs cs) :
    PV P e l H ⟨dst, .build t ps.toArray, ty, pos, after, gd⟩ (.agg cs.toArray) := fun X D a w ha hw => by
  have h1 : (ps.toArray.map fun (p : Nat × Operand) => (p.1, a.eval p.2)) = vs.toArray := by rw [← evParts_map ha ps vs hp]; simp
  have h2 := h.h vs.toArray w
  simp only [hf.fill] at h2
  simp only [execOp, Sem.run_bind, Sem.run_pure]
  rw [h1, h2]; rfl
end



section
variable {P : Program} {X : Cx} {e : Env} {l : List (Nat × Obj)} {H : Hp} {D : List Deferred} {k : List It}
variable {ty : TypeId} {pos : String} {after : Array Edge} {gd : Option (Nat × Bool)} {all : Array Oper} {rest : List Oper}

/-- An operation that leaves a value and a world. -/
theorem T.step {o : Oper} {d : Nat} (hw : Wanted e all o) (hd : o.dst = some d) (hN : Nat.blt d X.N = true)
    (h : ∀ a w, Ea X e D a → Wd X l H w → ∃ v l' H' w', (execOp a.eval o).run P w = .ok (.value v) w' ∧ Wd X l' H' w' ∧ T P X ((d, v) :: e) l' H' D (.ops all rest :: k)) :
    T P X e l H D (.ops all (o :: rest) :: k) := fun a w ha hw' => by
  refine wpList_cons (hw X D a ha) ?_
  obtain ⟨v, l', H', w', h1, h2, h3⟩ := h a w ha hw'
  rw [run_semAt h1 (fun _ => by simp), Oper.uponIn_value, hd]
  exact h3 _ w' (ha.put (by simpa using hN) v) h2
theorem T.step0 {o : Oper} (hw : Wanted e all o) (hd : o.dst = none)
    (h : ∀ a w, Ea X e D a → Wd X l H w → ∃ l' H' w', (execOp a.eval o).run P w = .ok .skip w' ∧ Wd X l' H' w' ∧ T P X e l' H' D (.ops all rest :: k)) :
    T P X e l H D (.ops all (o :: rest) :: k) := fun a w ha hw' => by
  refine wpList_cons (hw X D a ha) ?_
  obtain ⟨l', H', w', h1, h2, h3⟩ := h a w ha hw'
  rw [run_semAt h1 (fun _ => by simp), Oper.uponIn_skip, hd]
  exact h3 _ w' ha h2

theorem T.alloc {t : TypeId} {z : List Value} [hz : ZeroOf P t z] {d : Nat} (hw : Wanted e all ⟨some d, .alloc t, ty, pos, after, gd⟩) (hN : Nat.blt d X.N = true)
    (h : ∀ b, T P X ((d, .pointer (some ⟨b, 0, none⟩)) :: e) ((b, .cells z.toArray t (0, 0)) :: l) H D (.ops all rest :: k)) :
    T P X e l H D (.ops all (⟨some d, .alloc t, ty, pos, after, gd⟩ :: rest) :: k) :=
  T.step hw rfl hN fun a w ha hw' => by
    obtain ⟨v, h1, h2⟩ := hz.h
    refine ⟨_, _, _, w.alloc (.cells z.toArray t (0, 0)), ?_, hw'.alloc _, h w.heap.size⟩
    simp [execOp, Instr.alloc, h1, newVar, newRow, h2]
theorem T.box {t : TypeId} {x : Operand} {v : Value} {cs : List Value} {d : Nat} (hw : Wanted e all ⟨some d, .box t x, ty, pos, after, gd⟩) (hN : Nat.blt d X.N = true) (hx : evE e x = some v) (hc : CellsR v cs)
    (h : ∀ b, T P X ((d, .pointer (some ⟨b, 0, none⟩)) :: e) ((b, .cells cs.toArray t (0, 0)) :: l) H D (.ops all rest :: k)) :
    T P X e l H D (.ops all (⟨some d, .box t x, ty, pos, after, gd⟩ :: rest) :: k) :=
  T.step hw rfl hN fun a w ha hw' => by
    refine ⟨_, _, _, w.alloc (.cells cs.toArray t (0, 0)), ?_, hw'.alloc _, h w.heap.size⟩
    simp [execOp, Instr.box, ha.eval hx, newVar, newRow, hc.cells]

theorem putObj_eq_setCell {w : World} {b o : Nat} {c : Array Value} {t : TypeId} {fz : Nat × Nat} (v : Value) (h : w.heap[b]? = some (.cells c t fz)) : w.setCell ⟨b, o, none⟩ v = w.putObj b (.cells (c.setIfInBounds o v) t fz) := by
  have hlt := (Array.getElem?_eq_some_iff.1 h).1
  have hh : w.heap.modify b (fun | .cells c elem frozen => .cells (c.setIfInBounds o v) elem frozen | o => o) = w.heap.setIfInBounds b (.cells (c.setIfInBounds o v) t fz) := by
    apply Array.ext_getElem?
    intro i
    rw [Array.getElem?_modify, Array.getElem?_setIfInBounds]
    by_cases e1 : b = i
    · subst e1
      rw [Array.getElem?_eq_getElem hlt] at h
      simp [hlt, Option.some.inj h]
    · simp [e1]
  unfold World.setCell World.putObj
  rw [← hh]
  rfl

theorem run_storeCells_at {w : World} {b : Nat} {t : TypeId} : ∀ (vs : List Value) (cs : List Value) (o i : Nat) (w : World), w.heap[b]? = some (.cells cs.toArray t (0, 0)) → o + i + vs.length ≤ cs.length → (∀ v ∈ vs, v.oneCell' = true) →
    (storeCells ⟨b, o, none⟩ vs i).run P w = .ok () (w.putObj b (.cells (cs.take (o + i) ++ vs ++ cs.drop (o + i + vs.length)).toArray t (0, 0)))
  | [], cs, o, i, w, h, _, _ => by
    have : w.putObj b (.cells (cs.take (o + i) ++ [] ++ cs.drop (o + i + ([] : List Value).length)).toArray t (0, 0)) = w := by
      simp only [List.append_nil, List.length_nil, Nat.add_zero, List.take_append_drop]
      unfold World.putObj
      have hlt := (Array.getElem?_eq_some_iff.1 h).1
      have : w.heap.setIfInBounds b (.cells cs.toArray t (0, 0)) = w.heap := by
        apply Array.ext_getElem?
        intro j
        rw [Array.getElem?_setIfInBounds]
        split
        · rename_i e1; subst e1; rw [Array.getElem?_eq_getElem hlt] at h; simp [hlt, Option.some.inj h]
        · rfl
      rw [this]
    rw [this]; rfl
  | v :: vs, cs, o, i, w, h, hl, h1 => by
    simp only [List.length_cons] at hl
    have had : (⟨b, o, none⟩ : Addr).add i = ⟨b, o + i, none⟩ := by unfold Addr.add; split <;> simp_all
    have hc : w.cell? ⟨b, o + i, none⟩ = some cs[o + i] := by rw [cell_of h]; simp
    have hf : w.frozen? ⟨b, o + i, none⟩ = false := by simp [World.frozen?, h]
    have h1v := h1 v List.mem_cons_self
    have hst := run_store P w ⟨b, o + i, none⟩ v .plain h1v
    rw [hc] at hst
    simp only [hf, Bool.false_eq_true, if_false] at hst
    have hset : (cs.toArray.setIfInBounds (o + i) v) = (cs.set (o + i) v).toArray := by simp
    rw [putObj_eq_setCell v h, hset] at hst
    have hlt := (Array.getElem?_eq_some_iff.1 h).1
    have hrec := run_storeCells_at (w := w) (b := b) (t := t) vs (cs.set (o + i) v) o (i + 1) (w.putObj b (.cells (cs.set (o + i) v).toArray t (0, 0))) (World.putObj_heap_same hlt) (by simp; omega) (fun u hu => h1 u (List.mem_cons_of_mem _ hu))
    unfold storeCells
    simp only [Sem.run_bind, had, hst, Result.andThen_ok]
    rw [hrec]
    have hpp : ∀ (o1 o2 : Obj), (w.putObj b o1).putObj b o2 = w.putObj b o2 := by intro o1 o2; simp [World.putObj]
    rw [hpp]
    congr 4
    apply List.ext_getElem?
    intro j
    simp only [List.getElem?_append, List.getElem?_take, List.getElem?_drop, List.getElem?_set, List.length_append, List.length_take, List.length_set, List.length_cons]
    by_cases g1 : j < o + i
    · have a1 : j < min (o + (i + 1)) cs.length + vs.length := by omega
      have a2 : j < min (o + (i + 1)) cs.length := by omega
      have a3 : j < o + (i + 1) := by omega
      have a4 : ¬ o + i = j := by omega
      have a5 : j < min (o + i) cs.length + (vs.length + 1) := by omega
      have a6 : j < min (o + i) cs.length := by omega
      simp [a1, a2, a3, a4, a5, a6, g1]
    · by_cases g2 : j = o + i
      · subst g2
        have a1 : o + i < min (o + (i + 1)) cs.length + vs.length := by omega
        have a2 : o + i < min (o + (i + 1)) cs.length := by omega
        have a3 : o + i < o + (i + 1) := by omega
        have a5 : o + i < min (o + i) cs.length + (vs.length + 1) := by omega
        have a6 : ¬ o + i < min (o + i) cs.length := by omega
        have a7 : o + i - min (o + i) cs.length = 0 := by omega
        have a8 : o + i < cs.length := by omega
        simp [a1, a2, a3, a5, a6, a7, a8]
      · by_cases g3 : j < o + i + 1 + vs.length
        · have a1 : j < min (o + (i + 1)) cs.length + vs.length := by omega
          have a2 : ¬ j < min (o + (i + 1)) cs.length := by omega
          have a5 : j < min (o + i) cs.length + (vs.length + 1) := by omega
          have a6 : ¬ j < min (o + i) cs.length := by omega
          obtain ⟨q, hq⟩ : ∃ q, j - min (o + i) cs.length = q + 1 := ⟨j - min (o + i) cs.length - 1, by omega⟩
          have a7 : j - min (o + (i + 1)) cs.length = q := by omega
          simp [a1, a2, a5, a6, hq, a7]
        · have a1 : ¬ j < min (o + (i + 1)) cs.length + vs.length := by omega
          have a5 : ¬ j < min (o + i) cs.length + (vs.length + 1) := by omega
          have a7 : ¬ o + i = o + (i + 1) + vs.length + (j - (min (o + (i + 1)) cs.length + vs.length)) := by omega
          have a8 : o + (i + 1) + vs.length + (j - (min (o + (i + 1)) cs.length + vs.length)) = o + i + (vs.length + 1) + (j - (min (o + i) cs.length + (vs.length + 1))) := by omega
          simp only [a1, a5, if_false, a7]
          rw [a8]

def AllOne : List Value → Prop
  | [] => True
  | v :: vs => v.oneCell' = true ∧ AllOne vs
theorem AllOne.spec : ∀ {vs : List Value}, AllOne vs → ∀ v ∈ vs, v.oneCell' = true
  | v :: vs, ⟨h1, h2⟩, u, hu => by
    rcases List.mem_cons.1 hu with rfl | hu
    · exact h1
    · exact h2.spec u hu

theorem T.store {t t' : TypeId} {n : Nat} (hs : ∀ w, (sizeOf t).run P w = .ok n w) {x y : Operand} {v : Value} {vs cs cs' : List Value} {b o : Nat} {l' : List (Nat × Obj)} (hw : Wanted e all ⟨none, .store t x y, ty, pos, after, gd⟩)
    (hx : evE e x = some (.pointer (some ⟨b, o, none⟩))) (hy : evE e y = some v) (hc : CellsR v vs) (h1 : AllOne vs) (hn : Nat.beq vs.length n = true) (hu : Upd l b (.cells cs.toArray t' (0, 0)) (.cells cs'.toArray t' (0, 0)) l') (hsp : Splice cs o vs cs')
    (h : T P X e l' H D (.ops all rest :: k)) : T P X e l H D (.ops all (⟨none, .store t x y, ty, pos, after, gd⟩ :: rest) :: k) :=
  T.step0 hw rfl fun a w ha hw' => by
    have hb := (hw'.own _ hu.mem).1
    obtain ⟨s1, s2, s3⟩ := hsp.spec
    refine ⟨l', H, w.putObj b (.cells cs'.toArray t' (0, 0)), ?_, hw'.upd hu, h⟩
    have := run_storeCells_at (P := P) (w := w) vs cs o 0 w hb (by omega) h1.spec
    simp only [Nat.add_zero, ← s3] at this
    have hvs : v.cells.toList = vs := by rw [hc.cells]
    have hsz : v.cells.size = n := by rw [hc.cells]; simpa using Nat.eq_of_beq_eq_true hn
    simp [execOp, Instr.storeAt, ha.eval hx, ha.eval hy, Instr.sureAddr, storeVar, hs, hsz, hvs, this]
theorem T.store1 {t t' : TypeId} [ht : IsOne P t] {x y : Operand} {v : Value} {cs cs' : List Value} {b o : Nat} {l' : List (Nat × Obj)} (hw : Wanted e all ⟨none, .store t x y, ty, pos, after, gd⟩)
    (hx : evE e x = some (.pointer (some ⟨b, o, none⟩))) (hy : evE e y = some v) (h1 : v.oneCell' = true) (hu : Upd l b (.cells cs.toArray t' (0, 0)) (.cells cs'.toArray t' (0, 0)) l') (hsp : Splice cs o [v] cs')
    (h : T P X e l' H D (.ops all rest :: k)) : T P X e l H D (.ops all (⟨none, .store t x y, ty, pos, after, gd⟩ :: rest) :: k) :=
  T.store ht.s hw hx hy (.one h1) ⟨h1, trivial⟩ rfl hu hsp h
theorem T.storeA {t t' : TypeId} {n : Nat} [ht : IsAgg P t n] {x y : Operand} {vs cs cs' : List Value} {b o : Nat} {l' : List (Nat × Obj)} (hw : Wanted e all ⟨none, .store t x y, ty, pos, after, gd⟩)
    (hx : evE e x = some (.pointer (some ⟨b, o, none⟩))) (hy : evE e y = some (.agg vs.toArray)) (h1 : AllOne vs) (hn : Nat.beq vs.length n = true) (hu : Upd l b (.cells cs.toArray t' (0, 0)) (.cells cs'.toArray t' (0, 0)) l') (hsp : Splice cs o vs cs')
    (h : T P X e l' H D (.ops all rest :: k)) : T P X e l H D (.ops all (⟨none, .store t x y, ty, pos, after, gd⟩ :: rest) :: k) :=
  T.store ht.s hw hx hy .agg h1 hn hu hsp h

/-! ### range over a string -/
theorem T.rangeStr {t : TypeId} [ht : StrT P t] {x : Operand} {s : ByteArray} {d : Nat} (hw : Wanted e all ⟨some d, .range t x, ty, pos, after, gd⟩) (hN : Nat.blt d X.N = true) (hx : evE e x = some (.string s))
    (h : ∀ b, T P X ((d, .pointer (some ⟨b, 0, none⟩)) :: e) ((b, .stringIter s 0) :: l) H D (.ops all rest :: k)) :
    T P X e l H D (.ops all (⟨some d, .range t x, ty, pos, after, gd⟩ :: rest) :: k) :=
  T.step hw rfl hN fun a w ha hw' => by
    refine ⟨_, _, _, w.alloc (.stringIter s 0), ?_, hw'.alloc _, h w.heap.size⟩
    simp [execOp, Instr.range, ha.eval hx, run_underlying ht.h]
theorem T.nextStr {x : Operand} {s : ByteArray} {p r width : Nat} {b d : Nat} {l' : List (Nat × Obj)} (hw : Wanted e all ⟨some d, .next x true, ty, pos, after, gd⟩) (hN : Nat.blt d X.N = true) (hx : evE e x = some (.pointer (some ⟨b, 0, none⟩)))
    (hp : p < s.size) (hd : Utf8.decode s p = (r, width)) (hu : Upd l b (.stringIter s p) (.stringIter s (p + width)) l')
    (h : T P X ((d, .tuple #[.bool true, .int .i64 (p : Int), .int .i32 (r : Int)]) :: e) l' H D (.ops all rest :: k)) :
    T P X e l H D (.ops all (⟨some d, .next x true, ty, pos, after, gd⟩ :: rest) :: k) :=
  T.step hw rfl hN fun a w ha hw' => by
    have hb := (hw'.own _ hu.mem).1
    refine ⟨_, _, _, w.putObj b (.stringIter s (p + width)), ?_, hw'.upd hu, h⟩
    simp [execOp, Instr.next, ha.eval hx, getObj, setObj, Sem.run, hb, hp, hd, goInt, World.putObj]
theorem T.nextStrEnd {x : Operand} {s : ByteArray} {p : Nat} {b d : Nat} (hw : Wanted e all ⟨some d, .next x true, ty, pos, after, gd⟩) (hN : Nat.blt d X.N = true) (hx : evE e x = some (.pointer (some ⟨b, 0, none⟩)))
    (hu : (b, Obj.stringIter s p) ∈ l) (hp : s.size ≤ p)
    (h : T P X ((d, .tuple #[.bool false]) :: e) l H D (.ops all rest :: k)) :
    T P X e l H D (.ops all (⟨some d, .next x true, ty, pos, after, gd⟩ :: rest) :: k) :=
  T.step hw rfl hN fun a w ha hw' => by
    have hb := (hw'.own _ hu).1
    refine ⟨_, _, _, w, ?_, hw', h⟩
    have : ¬ p < s.size := by omega
    simp [execOp, Instr.next, ha.eval hx, getObj, Sem.run, hb, this]

/-! ### calls -/
/-- What a call of a function that writes nothing that lay comes to. -/
def FnR (w : World) (H : Hp) (R : Value → Hp → Prop) : Ending → World → Prop := fun en w' =>
  ∃ v H', en = .returned v ∧ (∀ b, b < w.heap.size → H' b = H b) ∧ Hin H' w' ∧ Keep All w w' ∧ R v H'
def Fn (P : Program) (f : FuncId) (args : Array Value) (H : Hp) (R : Value → Hp → Prop) : Prop :=
  ∀ w, Hin H w → CallsIn Fence.wide 0 P f args w (FnR w H R)
theorem Fn.mono {f : FuncId} {args : Array Value} {R R' : Value → Hp → Prop} (h : Fn P f args H R) (hr : ∀ v H', R v H' → R' v H') : Fn P f args H R' :=
  fun w hw => (h w hw).mono fun en w' ⟨v, H', h1, h2, h3, h4, h5⟩ => ⟨v, H', h1, h2, h3, h4, hr v H' h5⟩
theorem Fn.calls {f : FuncId} {args : Array Value} {R : Value → Hp → Prop} {w : World} (h : Fn P f args H R) (hw : Hin H w) : Calls P f args w (FnR w H R) := callsIn_wide.1 (h w hw)

class Ent (P : Program) (f : FuncId) : Prop where
  h : ∀ args w, (callFunc f args).run P w = .ok (.enter f args) w

theorem T.enter {o : Oper} {d : Nat} {f : FuncId} {args : Array Value} {R : Value → Hp → Prop} (hw : Wanted e all o) (hd : o.dst = some d) (hN : Nat.blt d X.N = true)
    (hrun : ∀ a w, Ea X e D a → (execOp a.eval o).run P w = .ok (.enter f args) w) (hf : Fn P f args H R)
    (h : ∀ v H', H.le H' → R v H' → T P X ((d, v) :: e) l H' D (.ops all rest :: k)) : T P X e l H D (.ops all (o :: rest) :: k) := fun a w ha hw' => by
  refine wpList_cons (hw X D a ha) ?_
  rw [run_semAt (hrun a w ha) (fun _ => by simp), Oper.uponIn_enter]
  refine ⟨fun hd => by simp [Fw, Fence.wide] at hd, ?_⟩
  have hc : CallsIn (Fw X.ro) 0 P f args w (FnR w H R) := hf w hw'.fro
  refine hc.mono ?_
  rintro en w' ⟨v, H', rfl, h2, h3, h4, h5⟩
  rw [hd]
  have hle : H.le H' := fun b o hb => by rw [h2 b (hw'.ltH hb)]; exact hb
  exact h v H' hle h5 _ w' (ha.put (by simpa using hN) v) (hw'.call h4 h3 h2)

def evL (e : Env) : List Operand → Option (List Value)
  | [] => some []
  | x :: xs => (evE e x).bind fun v => (evL e xs).bind fun vs => some (v :: vs)
theorem evL_map {a : Act} (ha : Ea X e D a) : ∀ (xs : List Operand) (vs : List Value), evL e xs = some vs → xs.map a.eval = vs
  | [], vs, h => by simp [evL] at h; simp [h]
  | x :: xs, vs, h => by
    simp only [evL] at h
    cases h1 : evE e x with
    | none => rw [h1] at h; cases h
    | some v =>
      rw [h1] at h
      cases h2 : evL e xs with
      | none => rw [h2] at h; cases h
      | some us => rw [h2] at h; simp at h; subst h; simp [ha.eval h1, evL_map ha xs us h2]

/-- A call of a named function. -/
theorem T.call {d : Nat} {f : FuncId} [hE : Ent P f] {xs : List Operand} {ts : Array TypeId} {vs : List Value} {R : Value → Hp → Prop} (hw : Wanted e all ⟨some d, .call ⟨.value (.func f), xs.toArray, ts⟩, ty, pos, after, gd⟩) (hN : Nat.blt d X.N = true)
    (hv : evL e xs = some vs) (hf : Fn P f vs.toArray H R)
    (h : ∀ v H', H.le H' → R v H' → T P X ((d, v) :: e) l H' D (.ops all rest :: k)) :
    T P X e l H D (.ops all (⟨some d, .call ⟨.value (.func f), xs.toArray, ts⟩, ty, pos, after, gd⟩ :: rest) :: k) :=
  T.enter (d := d) hw rfl hN (fun a w ha => by
    have := evL_map ha xs vs hv
    have hE' := hE.h (xs.map a.eval).toArray w
    rw [this] at hE'
    simp [execOp, resolve, Act.eval, Deferred.ofValue, invoke, List.map_toArray, this, hE']) hf h
theorem T.callV {d : Nat} {f : FuncId} [hE : Ent P f] {xs : List Operand} {ts : Array TypeId} {vs : List Value} {v : Value} (hw : Wanted e all ⟨some d, .call ⟨.value (.func f), xs.toArray, ts⟩, ty, pos, after, gd⟩) (hN : Nat.blt d X.N = true)
    (hv : evL e xs = some vs) (hf : Fn P f vs.toArray H (fun u _ => u = v))
    (h : T P X ((d, v) :: e) l H D (.ops all rest :: k)) :
    T P X e l H D (.ops all (⟨some d, .call ⟨.value (.func f), xs.toArray, ts⟩, ty, pos, after, gd⟩ :: rest) :: k) := fun a w ha hw' => by
  refine wpList_cons (hw X D a ha) ?_
  have hrun : (execOp a.eval ⟨some d, .call ⟨.value (.func f), xs.toArray, ts⟩, ty, pos, after, gd⟩).run P w = .ok (.enter f vs.toArray) w := by
    have := evL_map ha xs vs hv
    have hE' := hE.h (xs.map a.eval).toArray w
    rw [this] at hE'
    simp [execOp, resolve, Act.eval, Deferred.ofValue, invoke, List.map_toArray, this, hE']
  rw [run_semAt hrun (fun _ => by simp), Oper.uponIn_enter]
  refine ⟨fun hd => by simp [Fw, Fence.wide] at hd, ?_⟩
  have hc : CallsIn (Fw X.ro) 0 P f vs.toArray w (FnR w H (fun u _ => u = v)) := hf w hw'.fro
  refine hc.mono ?_
  rintro en w' ⟨u, H', rfl, h2, h3, h4, rfl⟩
  exact h _ w' (ha.put (by simpa using hN) u) (hw'.callV h4)
/-- A call of a function value. -/
theorem T.callF {d : Nat} {f : FuncId} [hE : Ent P f] {x : Operand} {xs : List Operand} {ts : Array TypeId} {vs cap : List Value} {R : Value → Hp → Prop} (hw : Wanted e all ⟨some d, .call ⟨.value x, xs.toArray, ts⟩, ty, pos, after, gd⟩) (hN : Nat.blt d X.N = true)
    (hx : evE e x = some (.func (.func f) #[] cap.toArray)) (hv : evL e xs = some vs) (hf : Fn P f (vs ++ cap).toArray H R)
    (h : ∀ v H', H.le H' → R v H' → T P X ((d, v) :: e) l H' D (.ops all rest :: k)) :
    T P X e l H D (.ops all (⟨some d, .call ⟨.value x, xs.toArray, ts⟩, ty, pos, after, gd⟩ :: rest) :: k) :=
  T.enter (d := d) hw rfl hN (fun a w ha => by
    have := evL_map ha xs vs hv
    have hE' := hE.h (vs ++ cap).toArray w
    simp [execOp, resolve, ha.eval hx, Deferred.ofValue, invoke, List.map_toArray, this]
    simpa using hE') hf h

/-! ### a function's beginning and end -/
def fnX (P : Program) (fn : Func) (w : World) (H : Hp) (R : Value → Hp → Prop) : Cx :=
  { ro := none, N := fn.ntmps, w1 := w, H0 := H, Pt := All, Q := bodyPostM Fence.wide 0 P fn (FnR w H R) }
def argE : Nat → List Value → Env
  | _, [] => []
  | i, v :: vs => (i, v) :: argE (i + 1) vs
theorem argE_get : ∀ (vs : List Value) (j i : Nat) (v : Value), (argE j vs).get i = some v → j ≤ i ∧ vs[i - j]? = some v
  | [], _, _, _, h => by cases h
  | u :: vs, j, i, v, h => by
    simp only [argE, Env.get] at h
    by_cases e1 : i = j
    · subst e1
      rw [Nat.beq_refl] at h
      simp at h
      simp [h]
    · have : Nat.beq i j = false := by rw [Bool.eq_false_iff]; intro hh; exact e1 (Nat.eq_of_beq_eq_true hh)
      rw [this] at h
      obtain ⟨h1, h2⟩ := argE_get vs (j + 1) i v h
      refine ⟨by omega, ?_⟩
      rw [show i - j = (i - (j + 1)) + 1 by omega]
      simpa using h2
theorem Fn.of_T {f : FuncId} {fn : Func} {c : Code} {vs : List Value} {R : Value → Hp → Prop} (hf : P.funcs[f]? = some fn) (hb : fn.body = some c) (hs : Nat.ble vs.length fn.ntmps = true)
    (h : ∀ w, T P (fnX P fn w H R) (argE 0 vs) [] H [] [.code c]) : Fn P f vs.toArray H R := fun w hw => by
  refine callsIn_of_wp_marks hf hb trivial ?_
  have hle : vs.length ≤ fn.ntmps := Nat.le_of_ble_eq_true hs
  have := h w { tmps := vs.toArray ++ Array.replicate (fn.ntmps - vs.toArray.size) undef, defers := [] } w ⟨by simp [fnX]; omega, fun i v hi => ?_, rfl⟩ ⟨by simp, by simp, hw, Keep.refl _ _, Hp.le.refl _, fun _ _ _ => rfl⟩
  · exact this
  · obtain ⟨_, h2⟩ := argE_get vs 0 i v hi
    rw [Nat.sub_zero] at h2
    have hlt := (List.getElem?_eq_some_iff.1 h2).1
    rw [Array.getElem?_append_left (by simpa using hlt)]
    simpa using h2

def Lv (P : Program) (X : Cx) (fn : Func) (R : Ending → World → Prop) (e : Env) (l : List (Nat × Obj)) (H : Hp) (D : List Deferred) : Prop :=
  ∀ D0 a w, Ea X e D0 a → Wd X l H w → LeavesInM Fence.wide 0 P fn a.tmps R D .returning w
def RV (P : Program) (fn : Func) (e : Env) (l : List (Nat × Obj)) (H : Hp) (v : Value) : Prop :=
  ∀ X D a w, Ea X e D a → Wd X l H w → (results fn a.tmps).run P w = .ok v w

theorem T.retF {fn : Func} {w0 : World} {H0 : Hp} {R : Value → Hp → Prop} (h : Lv P (fnX P fn w0 H0 R) fn (FnR w0 H0 R) e l H D) : T P (fnX P fn w0 H0 R) e l H D (.code .ret :: k) :=
  T.ret fun a w ha hw => by
    show LeavesInM _ _ _ _ _ _ a.defers _ _
    rw [ha.dfr]; exact h D a w ha hw
theorem T.fallF {fn : Func} {w0 : World} {H0 : Hp} {R : Value → Hp → Prop} (h : Lv P (fnX P fn w0 H0 R) fn (FnR w0 H0 R) e l H D) : T P (fnX P fn w0 H0 R) e l H D [] :=
  T.fall fun a w ha hw => by
    show LeavesInM _ _ _ _ _ _ a.defers _ _
    rw [ha.dfr]; exact h D a w ha hw
theorem Lv.fin {fn : Func} {w0 : World} {H0 : Hp} {R : Value → Hp → Prop} {v : Value} (hr : RV P fn e l H v) (hR : R v H) : Lv P (fnX P fn w0 H0 R) fn (FnR w0 H0 R) e l H [] :=
  fun D0 a w ha hw => ⟨v, hr _ _ a w ha hw, v, H, rfl, fun b hb => hw.ext b hb trivial, hw.fro, hw.keep, hR⟩
theorem Lv.mark {fn : Func} {R : Ending → World → Prop} {r : Nat} {l' : List (Nat × Obj)} (hu : Upd l r (.deferred (some [])) (.deferred none) l') (h : Lv P X fn R e l' H D) : Lv P X fn R e l H ({ target := .collected r, args := #[] } :: D) :=
  fun D0 a w ha hw => ⟨by simp, .inl ⟨r, _, rfl, run_takeDeferred (hw.own _ hu.mem).1, h D0 a _ ha (hw.upd hu)⟩⟩
theorem Lv.freeze {fn : Func} {R : Ending → World → Prop} {b : Nat} {o : Obj} (h : Lv P X fn R e l (H.put b o) D) : Lv P X fn R e ((b, o) :: l) H D := fun D0 a w ha hw => h D0 a w ha hw.freeze

theorem RV.tmp {fn : Func} {t : Tmp} {v : Value} (h : fn.results = #[.tmp t]) (hv : e.get t = some v) : RV P fn e l H v := fun X D a w ha hw => by
  rw [results_tmp h]; rw [ha.getD hv]
theorem RV.none {fn : Func} (h : fn.results = #[]) : RV P fn e l H (.tuple #[]) := fun X D a w ha hw => results_none h _ _ _
theorem RV.tmp2 {fn : Func} {t u : Tmp} {v1 v2 : Value} (h : fn.results = #[.tmp t, .tmp u]) (hv : e.get t = some v1) (hv2 : e.get u = some v2) : RV P fn e l H (.tuple #[v1, v2]) := fun X D a w ha hw => by
  rw [results_tmp2 h, ha.getD hv, ha.getD hv2]
theorem RV.tmp3 {fn : Func} {t u r : Tmp} {v1 v2 v3 : Value} (h : fn.results = #[.tmp t, .tmp u, .tmp r]) (hv : e.get t = some v1) (hv2 : e.get u = some v2) (hv3 : e.get r = some v3) : RV P fn e l H (.tuple #[v1, v2, v3]) := fun X D a w ha hw => by
  simp [results, h]
  simp [ha.get _ _ hv, ha.get _ _ hv2, ha.get _ _ hv3]
theorem RV.tmp4 {fn : Func} {t u r q : Tmp} {v1 v2 v3 v4 : Value} (h : fn.results = #[.tmp t, .tmp u, .tmp r, .tmp q]) (hv : e.get t = some v1) (hv2 : e.get u = some v2) (hv3 : e.get r = some v3) (hv4 : e.get q = some v4) : RV P fn e l H (.tuple #[v1, v2, v3, v4]) := fun X D a w ha hw => by
  simp [results, h]
  simp [ha.get _ _ hv, ha.get _ _ hv2, ha.get _ _ hv3, ha.get _ _ hv4]

/-- what a result variable in memory holds -/
def CV (P : Program) (e : Env) (l : List (Nat × Obj)) (H : Hp) (p : Tmp) (t : TypeId) (v : Value) : Prop :=
  ∃ ad, e.get p = some (.pointer (some ad)) ∧ ∀ X w, Wd X l H w → (loadVar t ad).run P w = .ok v w
theorem CV.one {p : Tmp} {t t' : TypeId} [ht : IsOne P t] {b o : Nat} {cs : List Value} {fz : Nat × Nat} {v : Value} (hp : e.get p = some (.pointer (some ⟨b, o, none⟩))) (hb : SomeObj l H b (.cells cs.toArray t' fz)) (hc : cs[o]? = some v) : CV P e l H p t v := ⟨_, hp, fun X w hw => by
  have h1 : w.cell? ⟨b, o, none⟩ = some v := (cell_of (hb.heap hw)).trans hc
  simp [loadVar, ht.h, h1]⟩
theorem CV.agg {p : Tmp} {t t' : TypeId} {n : Nat} [ht : IsAgg P t n] {b : Nat} {cs : List Value} {fz : Nat × Nat} (hp : e.get p = some (.pointer (some ⟨b, 0, none⟩))) (hb : SomeObj l H b (.cells cs.toArray t' fz)) (hn : Nat.beq cs.length n = true) : CV P e l H p t (.agg cs.toArray) := ⟨_, hp, fun X w hw => by
  have hl := Nat.eq_of_beq_eq_true hn
  have := run_loadCells_of (P := P) (hb.heap hw) (o := 0) (n := n) (vs := cs) (by rw [List.drop_zero]; exact List.take_of_length_le (Nat.le_of_eq hl)) hl
  simp [loadVar, ht.h, ht.s, this]⟩
theorem RV.cell {fn : Func} {p : Tmp} {t : TypeId} {v : Value} (h : fn.results = #[.cell p t]) (hv : CV P e l H p t v) : RV P fn e l H v := fun X D a w ha hw => by
  obtain ⟨a1, g1, h1⟩ := hv
  have h1 := h1 X w hw
  simp [results, h, ha.get _ _ g1, asAddr, h1]
theorem RV.cell2 {fn : Func} {p q : Tmp} {t u : TypeId} {v1 v2 : Value} (h : fn.results = #[.cell p t, .cell q u]) (hv : CV P e l H p t v1) (hv2 : CV P e l H q u v2) : RV P fn e l H (.tuple #[v1, v2]) := fun X D a w ha hw => by
  obtain ⟨a1, g1, h1⟩ := hv
  obtain ⟨a2, g2, h2⟩ := hv2
  have h1 := h1 X w hw
  have h2 := h2 X w hw
  simp [results, h, ha.get _ _ g1, ha.get _ _ g2, asAddr, h1, h2]
theorem RV.cell4 {fn : Func} {p q r s : Tmp} {t u x y : TypeId} {v1 v2 v3 v4 : Value} (h : fn.results = #[.cell p t, .cell q u, .cell r x, .cell s y]) (hv : CV P e l H p t v1) (hv2 : CV P e l H q u v2) (hv3 : CV P e l H r x v3) (hv4 : CV P e l H s y v4) : RV P fn e l H (.tuple #[v1, v2, v3, v4]) := fun X D a w ha hw => by
  obtain ⟨a1, g1, h1⟩ := hv
  obtain ⟨a2, g2, h2⟩ := hv2
  obtain ⟨a3, g3, h3⟩ := hv3
  obtain ⟨a4, g4, h4⟩ := hv4
  have h1 := h1 X w hw
  have h2 := h2 X w hw
  have h3 := h3 X w hw
  have h4 := h4 X w hw
  simp [results, h, ha.get _ _ g1, ha.get _ _ g2, ha.get _ _ g3, ha.get _ _ g4, asAddr, h1, h2, h3, h4]
end

theorem placesOf_mk {P : Program} {t : TypeId} {pl : List (Nat × Nat)} {z : List Value} (fs : Array Field) (zv : Value) (h1 : ∀ w, (zeroValue t).run P w = .ok zv w) (hz : zv.cells = z.toArray) (h2 : P.underlying t = some (.struct fs))
    (h3 : ∀ w, (fs.mapM (fun f => do pure (f.offset, ← sizeOf f.type) : Field → Sem (Nat × Nat))).run P w = .ok pl.toArray w) : PlacesOf P t pl z := ⟨fun parts w => by
  simp only [Instr.build, Sem.run_bind, h1, Result.andThen_ok, run_underlying h2, h3, hz]
  have : (fun x => pl.toArray[x]?) = (fun x : Nat => pl[x]?) := by funext x; simp
  simp only [this]
  cases Instr.fill (fun x => pl[x]?) z.toArray parts.toList <;> rfl⟩

theorem T.mk {P : Program} {X : Cx} {e : Env} {l : List (Nat × Obj)} {H : Hp} {D : List Deferred} {k : List It} (h : ∀ a w, Ea X e D a → Wd X l H w → wpK P X.ro X.Q k .normal a w) : T P X e l H D k := h
theorem T.get {P : Program} {X : Cx} {e : Env} {l : List (Nat × Obj)} {H : Hp} {D : List Deferred} {k : List It} (h : T P X e l H D k) : ∀ a w, Ea X e D a → Wd X l H w → wpK P X.ro X.Q k .normal a w := h
theorem PV.mk {P : Program} {e : Env} {l : List (Nat × Obj)} {H : Hp} {o : Oper} {v : Value} (h : ∀ (X : Cx) (D : List Deferred) (a : Act) (w : World), Ea X e D a → Wd X l H w → (execOp a.eval o).run P w = .ok (.value v) w) : PV P e l H o v := h
theorem PV.get {P : Program} {e : Env} {l : List (Nat × Obj)} {H : Hp} {o : Oper} {v : Value} (h : PV P e l H o v) : ∀ (X : Cx) (D : List Deferred) (a : Act) (w : World), Ea X e D a → Wd X l H w → (execOp a.eval o).run P w = .ok (.value v) w := h
theorem Wanted.get {e : Env} {all : Array Oper} {o : Oper} (h : Wanted e all o) : ∀ (X : Cx) (D : List Deferred) (a : Act), Ea X e D a → Region.wanted o (yielded all a.tmps) = true := h
theorem Unwanted.get {e : Env} {all : Array Oper} {o : Oper} (h : Unwanted e all o) : ∀ (X : Cx) (D : List Deferred) (a : Act), Ea X e D a → Region.wanted o (yielded all a.tmps) = false := h
theorem Fn.mk {P : Program} {f : FuncId} {args : Array Value} {H : Hp} {R : Value → Hp → Prop} (h : ∀ w, Hin H w → CallsIn Fence.wide 0 P f args w (FnR w H R)) : Fn P f args H R := h
theorem Fn.get {P : Program} {f : FuncId} {args : Array Value} {H : Hp} {R : Value → Hp → Prop} (h : Fn P f args H R) : ∀ w, Hin H w → CallsIn Fence.wide 0 P f args w (FnR w H R) := h
theorem Lv.mk {P : Program} {X : Cx} {fn : Func} {R : Ending → World → Prop} {e : Env} {l : List (Nat × Obj)} {H : Hp} {D : List Deferred} (h : ∀ D0 a w, Ea X e D0 a → Wd X l H w → LeavesInM Fence.wide 0 P fn a.tmps R D .returning w) : Lv P X fn R e l H D := h
theorem RV.mk {P : Program} {fn : Func} {e : Env} {l : List (Nat × Obj)} {H : Hp} {v : Value} (h : ∀ X D a w, Ea X e D a → Wd X l H w → (results fn a.tmps).run P w = .ok v w) : RV P fn e l H v := h
theorem RV.get {P : Program} {fn : Func} {e : Env} {l : List (Nat × Obj)} {H : Hp} {v : Value} (h : RV P fn e l H v) : ∀ X D a w, Ea X e D a → Wd X l H w → (results fn a.tmps).run P w = .ok v w := h
theorem Lv.get {P : Program} {X : Cx} {fn : Func} {R : Ending → World → Prop} {e : Env} {l : List (Nat × Obj)} {H : Hp} {D : List Deferred} (h : Lv P X fn R e l H D) : ∀ D0 a w, Ea X e D0 a → Wd X l H w → LeavesInM Fence.wide 0 P fn a.tmps R D .returning w := h
attribute [irreducible] T PV Wanted Unwanted Fn Lv RV CV

end Go.Proofs.Ytceaicameojcaaa
