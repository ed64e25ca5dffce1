/- Own layer: short names for proofs that are found by the same few tries.
   Own layer over the fenced calculus: abstract states (slots, owned blocks, a heap that is never written again) and a rule for each kind of operation.
   Own layer: slices that are made and appended to; slices that are only read; ranges over functions.
   Own layer: ranges over functions: an iterator's contract, the round, the statement.
   Own layer: regions whose order is open: all that the region holds only yields values, or all but a tail that waits for the rest.
   Own layer: regions whose order is open, with stores among their operations: each operation's value hangs on what it waits for alone, and the stores wait for one another. -/
import Derived.WalkKit
import Derived.RangeFuncIn
import Derived.RangeFuncCalls
import Derived.OrdersIn
import Derived.TacticsIn
import Derived.CallsIn
import Derived.RangeFuncLeaves
import Derived.Shelf.Abstract
import Derived.RangeFuncKeeps
import Derived.Deep.Quiet
import Derived.StillTail
set_option linter.all false
namespace Go.Proofs.YtecogbhbkccblaaGreatDoor
theorem zK {p : Prop} (h : p := by kernel_rfl) : p := h
theorem zO {p : Prop} (h : p := by omega) : p := h
theorem zA {p : Prop} (h : p := by assumption) : p := h
theorem zX {p : Prop} (h : p := by exact rfl) : p := h
theorem zD {p : Prop} (h : p := by decide) : p := h
theorem zE {p : Prop} (h : p := by dsimp only; omega) : p := h
theorem zq0 {p : Prop} (h : p := by first | exact .fro (by assumption) | exact .own (by repeat (first | exact List.Mem.head _ | apply List.Mem.tail | apply List.mem_append_right))) : p := h
theorem zq1 {p : Prop} (h : p := by repeat (first | exact Pick.nil | exact Pick.allA | exact Pick.all | apply Pick.take | apply Pick.leave | apply Pick.app)) : p := h
theorem zq2 {p : Prop} (h : p := by repeat (first | exact List.Mem.head _ | apply List.Mem.tail | apply List.mem_append_right)) : p := h
theorem zq4 {p : Prop} (h : p := by repeat (first | exact List.Sublist.slnil | exact List.nil_sublist _ | exact List.Sublist.refl _ | exact List.sublist_append_left _ _ | exact List.sublist_append_left _ [] | apply List.Sublist.cons_cons | apply List.Sublist.cons | refine List.Sublist.append_left ?_ _ | refine List.sublist_append_of_sublist_right ?_)) : p := h
theorem zq6 {p : Prop} (h : p := by first | exact RV.tmp rfl rfl | exact RV.tmp2 rfl rfl rfl | exact RV.tmp3 rfl rfl rfl rfl | exact RV.tmp4 rfl rfl rfl rfl rfl | exact RV.cell rfl (by first | exact CV.agg rfl (by first | exact .fro (by assumption) | exact .own (by repeat (first | exact List.Mem.head _ | apply List.Mem.tail | apply List.mem_append_right))) (by exact rfl) | exact CV.one rfl (by first | exact .fro (by assumption) | exact .own (by repeat (first | exact List.Mem.head _ | apply List.Mem.tail | apply List.mem_append_right))) rfl) | exact RV.cell2 rfl (by first | exact CV.agg rfl (by first | exact .fro (by assumption) | exact .own (by repeat (first | exact List.Mem.head _ | apply List.Mem.tail | apply List.mem_append_right))) (by exact rfl) | exact CV.one rfl (by first | exact .fro (by assumption) | exact .own (by repeat (first | exact List.Mem.head _ | apply List.Mem.tail | apply List.mem_append_right))) rfl) (by first | exact CV.agg rfl (by first | exact .fro (by assumption) | exact .own (by repeat (first | exact List.Mem.head _ | apply List.Mem.tail | apply List.mem_append_right))) (by exact rfl) | exact CV.one rfl (by first | exact .fro (by assumption) | exact .own (by repeat (first | exact List.Mem.head _ | apply List.Mem.tail | apply List.mem_append_right))) rfl) | exact RV.cell4 rfl (by first | exact CV.agg rfl (by first | exact .fro (by assumption) | exact .own (by repeat (first | exact List.Mem.head _ | apply List.Mem.tail | apply List.mem_append_right))) (by exact rfl) | exact CV.one rfl (by first | exact .fro (by assumption) | exact .own (by repeat (first | exact List.Mem.head _ | apply List.Mem.tail | apply List.mem_append_right))) rfl) (by first | exact CV.agg rfl (by first | exact .fro (by assumption) | exact .own (by repeat (first | exact List.Mem.head _ | apply List.Mem.tail | apply List.mem_append_right))) (by exact rfl) | exact CV.one rfl (by first | exact .fro (by assumption) | exact .own (by repeat (first | exact List.Mem.head _ | apply List.Mem.tail | apply List.mem_append_right))) rfl) (by first | exact CV.agg rfl (by first | exact .fro (by assumption) | exact .own (by repeat (first | exact List.Mem.head _ | apply List.Mem.tail | apply List.mem_append_right))) (by exact rfl) | exact CV.one rfl (by first | exact .fro (by assumption) | exact .own (by repeat (first | exact List.Mem.head _ | apply List.Mem.tail | apply List.mem_append_right))) rfl) (by first | exact CV.agg rfl (by first | exact .fro (by assumption) | exact .own (by repeat (first | exact List.Mem.head _ | apply List.Mem.tail | apply List.mem_append_right))) (by exact rfl) | exact CV.one rfl (by first | exact .fro (by assumption) | exact .own (by repeat (first | exact List.Mem.head _ | apply List.Mem.tail | apply List.mem_append_right))) rfl) | exact RV.none rfl) : p := h
theorem zq7 {p : Prop} (h : p := by first | exact CV.agg rfl (by first | exact .fro (by assumption) | exact .own (by repeat (first | exact List.Mem.head _ | apply List.Mem.tail | apply List.mem_append_right))) (by exact rfl) | exact CV.one rfl (by first | exact .fro (by assumption) | exact .own (by repeat (first | exact List.Mem.head _ | apply List.Mem.tail | apply List.mem_append_right))) rfl) : p := h
theorem zq8 {p : Prop} (h : p := by repeat (first | exact trivial | refine And.intro rfl ?_)) : p := h
theorem zq11 {p : Prop} (h : p := by repeat (first | exact FillAll.nil | (apply FillAll.cons; (first | exact CellsR.one rfl | exact CellsR.agg); exact rfl))) : p := h
theorem zq12 {p : Prop} (h : p := by repeat (first | exact FillR.nil | (apply FillR.cons rfl; (first | exact CellsR.one rfl | exact CellsR.agg); rfl; repeat (first | exact Splice.nil | apply Splice.cons | apply Splice.skip)))) : p := h
theorem zq13 {p : Prop} (h : p := by repeat (first | exact Splice.nil | apply Splice.cons | apply Splice.skip)) : p := h
theorem zq14 {p : Prop} (h : p := by repeat (first | exact Upd.head | apply Upd.tail | apply Upd.app)) : p := h
theorem zq15 {p : Prop} (h : p := by first | exact CellsR.one rfl | exact CellsR.agg) : p := h
theorem zq19 {p : Prop} (h : p := by first | exact Hp.le.refl _ | assumption | exact Hp.le.trans (by assumption) (by assumption) | exact Hp.le.trans (Hp.le.trans (by assumption) (by assumption)) (by assumption) | (with_reducible iterate 12 (try (first | exact Hp.le.refl _ | assumption | refine Hp.le.trans ?_ (by assumption))))) : p := h
theorem zq20 {p : Prop} (h : p := by first | exact .inr ⟨(by repeat (first | exact List.Sublist.slnil | exact List.nil_sublist _ | exact List.Sublist.refl _ | exact List.sublist_append_left _ _ | exact List.sublist_append_left _ [] | apply List.Sublist.cons_cons | apply List.Sublist.cons | refine List.Sublist.append_left ?_ _ | refine List.sublist_append_of_sublist_right ?_)), (by first | exact Hp.le.refl _ | assumption | exact Hp.le.trans (by assumption) (by assumption) | exact Hp.le.trans (Hp.le.trans (by assumption) (by assumption)) (by assumption) | (with_reducible iterate 12 (try (first | exact Hp.le.refl _ | assumption | refine Hp.le.trans ?_ (by assumption)))))⟩ | exact .inl (by kernel_rfl)) : p := h
theorem zq22 {p : Prop} (h : p := by first | exact Wanted.none | exact Wanted.guard rfl rfl (by first | rfl | assumption)) : p := h
theorem zq23 {p : Prop} (h : p := by repeat (first | exact Sel.refl _ | exact Sel.nil | (refine Sel.cons (by repeat (first | exact Pick.nil | exact Pick.allA | exact Pick.all | apply Pick.take | apply Pick.leave | apply Pick.app)) ?_) | (refine Sel.app (by repeat (first | exact Pick.nil | exact Pick.allA | exact Pick.all | apply Pick.take | apply Pick.leave | apply Pick.app)) ?_) | exact Sel.one (by repeat (first | exact Pick.nil | exact Pick.allA | exact Pick.all | apply Pick.take | apply Pick.leave | apply Pick.app)))) : p := h
end Go.Proofs.YtecogbhbkccblaaGreatDoor
namespace Go.Proofs.YtecogbhbkccblaaGreatDoor
open Go.RowKit


/-- The fence that lets everything in, in a round or not. -/
def Fw (ro : Option Nat) : Fence := { Fence.wide with round := ro }
theorem Fw_round (ro : Option Nat) : (Fw ro).round = ro := rfl

abbrev Post := Exit → Act → World → Prop

/-- What is still to be done. -/
inductive It where
  | code (c : Code)
  | blk (id : Nat)
  | ops (all : Array Oper) (l : List Oper)
  | done (J : Act → World → Prop)

def wpK (P : Program) (ro : Option Nat) (Q : Post) : List It → Post
  | [] => Q
  | .code c :: k => fun e a w => match e with
    | .normal => c.wpIn (Fw ro) 0 P (wpK P ro Q k) a w
    | e => wpK P ro Q k e a w
  | .blk id :: k => fun e a w => match e with
    | .exit id' => if id' = id then wpK P ro Q k .normal a w else wpK P ro Q k (.exit id') a w
    | e => wpK P ro Q k e a w
  | .ops all l :: k => fun e a w => match e with
    | .normal => wpListIn (Fw ro) 0 P all (wpK P ro Q k) l a w
    | e => wpK P ro Q k e a w
  | .done J :: k => fun e a w => match e with
    | .normal => J a w
    | e => wpK P ro Q k e a w

section
variable {P : Program} {ro : Option Nat} {Q : Post} {k : List It} {a : Act} {w : World}

theorem wpK_seq {x y : Code} (h : wpK P ro Q (.code x :: .code y :: k) .normal a w) : wpK P ro Q (.code (.seq x y) :: k) .normal a w := by
  refine wpIn_seq (wpIn_mono (show x.wpIn _ _ _ (wpK P ro Q (.code y :: k)) a w from h) ?_)
  intro e a w he
  cases e <;> exact he

theorem wpK_block {id : Nat} {c : Code} (h : wpK P ro Q (.code c :: .blk id :: k) .normal a w) : wpK P ro Q (.code (.block id c) :: k) .normal a w := by
  refine wpIn_block (wpIn_mono (show c.wpIn _ _ _ (wpK P ro Q (.blk id :: k)) a w from h) ?_)
  intro e a w he
  cases e <;> exact he

theorem wpK_cond {c : Operand} {x y : Code} {t : Bool} (hc : a.eval c = .bool t) (h : wpK P ro Q (.code (if t then x else y) :: k) .normal a w) : wpK P ro Q (.code (.cond c x y) :: k) .normal a w :=
  wpIn_cond hc h

theorem wpK_skip (h : wpK P ro Q k .normal a w) : wpK P ro Q (.code .skip :: k) .normal a w := wpIn_skip h

theorem wpK_region {id : Nat} {l : List Oper} (h : wpK P ro Q (.ops l.toArray l :: k) .normal a w) : wpK P ro Q (.code (.region id l.toArray false) :: k) .normal a w :=
  wpIn_region_lit h

/-- Where an exit leads. -/
def exitK (id : Nat) : List It → Option (List It)
  | [] => none
  | .blk id' :: k => bif Nat.beq id id' then some k else exitK id k
  | _ :: k => exitK id k

theorem wpK_exit_of {id : Nat} {k' : List It} : ∀ {k : List It}, exitK id k = some k' → wpK P ro Q k' .normal a w → wpK P ro Q k (.exit id) a w
  | [], h, _ => by cases h
  | .blk id' :: k, h, hk => by
    show if id = id' then _ else _
    unfold exitK at h
    by_cases e : id = id'
    · subst e
      rw [if_pos rfl]
      have hb : Nat.beq id id = true := Nat.beq_refl id
      rw [hb] at h
      obtain rfl : k = k' := by simpa using h
      exact hk
    · rw [if_neg e]
      have : Nat.beq id id' = false := by rw [Bool.eq_false_iff]; intro hh; exact e (Nat.eq_of_beq_eq_true hh)
      rw [this] at h
      exact wpK_exit_of (k := k) h hk
  | .code _ :: k, h, hk => wpK_exit_of (k := k) h hk
  | .ops _ _ :: k, h, hk => wpK_exit_of (k := k) h hk
  | .done _ :: k, h, hk => wpK_exit_of (k := k) h hk

theorem wpK_exit {id : Nat} {k' : List It} (hx : exitK id k = some k') (h : wpK P ro Q k' .normal a w) : wpK P ro Q (.code (.exit id) :: k) .normal a w :=
  wpIn_exit (wpK_exit_of hx h)

theorem wpK_ret_of : ∀ {k : List It}, Q .ret a w → wpK P ro Q k .ret a w
  | [], h => h
  | .blk _ :: k, h => wpK_ret_of (k := k) h
  | .code _ :: k, h => wpK_ret_of (k := k) h
  | .ops _ _ :: k, h => wpK_ret_of (k := k) h
  | .done _ :: k, h => wpK_ret_of (k := k) h

theorem wpK_ret (h : Q .ret a w) : wpK P ro Q (.code .ret :: k) .normal a w := wpIn_ret (wpK_ret_of h)

theorem exists_least {p : Nat → Prop} : ∀ n, p n → ∃ m, p m ∧ ∀ j, p j → m ≤ j := by
  intro n
  induction n using Nat.strongRecOn with
  | _ n ih =>
    intro hn
    by_cases h : ∃ j, j < n ∧ p j
    · obtain ⟨j, hj, hp⟩ := h
      exact ih j hj hp
    · exact ⟨n, hn, fun j hj => by
        by_cases hlt : j < n
        · exact absurd ⟨j, hlt, hj⟩ h
        · omega⟩

/-- A loop, with a ghost. -/
theorem wpK_loop {γ : Type} {body : Code} (I : γ → Act → World → Prop) (μ : γ → Nat) (g0 : γ) (h0 : I g0 a w)
    (h : ∀ g a w, I g a w → wpK P ro Q (.code body :: .done (fun a w => ∃ g', I g' a w ∧ μ g' < μ g) :: k) .normal a w) :
    wpK P ro Q (.code (.loop body) :: k) .normal a w := by
  classical
  let m : Act → World → Nat := fun a w => if hx : ∃ n, ∃ g, I g a w ∧ μ g = n then Classical.choose (exists_least (p := fun n => ∃ g, I g a w ∧ μ g = n) _ (Classical.choose_spec hx)) else 0
  have hm : ∀ a w g, I g a w → (∃ g1, I g1 a w ∧ μ g1 = m a w) ∧ m a w ≤ μ g := by
    intro a w g hg
    have hx : ∃ n, ∃ g, I g a w ∧ μ g = n := ⟨_, g, hg, rfl⟩
    have he : m a w = Classical.choose (exists_least (p := fun n => ∃ g, I g a w ∧ μ g = n) _ (Classical.choose_spec hx)) := by
      show (if hx : _ then _ else _) = _
      rw [dif_pos hx]
    have hs := Classical.choose_spec (exists_least (p := fun n => ∃ g, I g a w ∧ μ g = n) _ (Classical.choose_spec hx))
    rw [← he] at hs
    exact ⟨hs.1, hs.2 _ ⟨g, hg, rfl⟩⟩
  refine wpIn_loop (fun a w => ∃ g, I g a w) m ⟨g0, h0⟩ ?_
  rintro a w ⟨g1, hg1⟩
  obtain ⟨⟨g, hg, hma⟩, -⟩ := hm a w g1 hg1
  refine wpIn_mono (show body.wpIn _ _ _ (wpK P ro Q (.done (fun a w => ∃ g', I g' a w ∧ μ g' < μ g) :: k)) a w from h g a w hg) ?_
  intro e a' w' he
  cases e with
  | normal =>
    obtain ⟨g', hi, hlt⟩ := he
    refine ⟨⟨g', hi⟩, ?_⟩
    have := (hm a' w' g' hi).2
    show m a' w' < m a w
    omega
  | _ => exact he
end



/-- A part of the heap that is never written again. -/
abbrev Hp := Nat → Option Obj
def Hp.le (H H' : Hp) : Prop := ∀ b o, H b = some o → H' b = some o
theorem Hp.le.refl (H : Hp) : H.le H := fun _ _ h => h
theorem Hp.le.trans {A B C : Hp} (h : A.le B) (k : B.le C) : A.le C := fun b o hb => k b o (h b o hb)
def Hp.put (H : Hp) (b : Nat) (o : Obj) : Hp := fun i => if i = b then some o else H i
def Hin (H : Hp) (w : World) : Prop := ∀ b o, H b = some o → w.heap[b]? = some o

abbrev Env := List (Nat × Value)
def Env.get : Env → Nat → Option Value
  | [], _ => none
  | (j, v) :: e, i => bif Nat.beq i j then some v else Env.get e i

structure Keep (Pt : Nat → Prop) (w w' : World) : Prop where
  os : w'.os = w.os
  tape : w'.tape = w.tape
  output : w'.output = w.output
  size : w.heap.size ≤ w'.heap.size
  drawn : w.drawn ≤ w'.drawn
  block : ∀ k, k < w.heap.size → Pt k → w'.heap[k]? = w.heap[k]?

theorem Keep.refl (Pt : Nat → Prop) (w : World) : Keep Pt w w := ⟨rfl, rfl, rfl, Nat.le_refl _, Nat.le_refl _, fun _ _ _ => rfl⟩
theorem Keep.trans {Pt : Nat → Prop} {a b c : World} (h : Keep Pt a b) (k : Keep Pt b c) : Keep Pt a c :=
  ⟨k.os.trans h.os, k.tape.trans h.tape, k.output.trans h.output, Nat.le_trans h.size k.size, Nat.le_trans h.drawn k.drawn, fun i hi hp => (k.block i (Nat.lt_of_lt_of_le hi h.size) hp).trans (h.block i hi hp)⟩
theorem Keep.mono {Pt Pt' : Nat → Prop} {a b : World} (h : Keep Pt a b) (hp : ∀ k, k < a.heap.size → Pt' k → Pt k) : Keep Pt' a b :=
  ⟨h.os, h.tape, h.output, h.size, h.drawn, fun k hk hk' => h.block k hk (hp k hk hk')⟩
abbrev All : Nat → Prop := fun _ => True
theorem Keep.below {w w' : World} (h : Keep All w w') : Below w.heap.size w w' := ⟨h.os, h.tape, h.output, h.size, fun k hk => h.block k hk trivial⟩
theorem Keep.alloc (Pt : Nat → Prop) (w : World) (o : Obj) : Keep Pt w (w.alloc o) := ⟨rfl, rfl, rfl, by simp, Nat.le_refl _, fun k hk _ => Go.heap_alloc_old w o hk⟩
theorem Keep.drew (Pt : Nat → Prop) (w : World) : Keep Pt w w.drew := ⟨rfl, rfl, rfl, Nat.le_refl _, Nat.le_succ _, fun _ _ _ => rfl⟩
/-- Where the walk stands: in a round or not; how many slots; the world at the start; which of its blocks are not to be written; what is to be shown at the end. -/
structure Cx where
  ro : Option Nat
  N : Nat
  w1 : World
  H0 : Hp
  Pt : Nat → Prop
  Q : Post

structure Wd (X : Cx) (l : List (Nat × Obj)) (H : Hp) (w : World) : Prop where
  own : ∀ p ∈ l, w.heap[p.1]? = some p.2 ∧ H p.1 = none ∧ (p.1 < X.w1.heap.size → ¬ X.Pt p.1)
  nd : (l.map (·.1)).Nodup
  fro : Hin H w
  keep : Keep X.Pt X.w1 w
  le : X.H0.le H
  ext : ∀ b, b < X.w1.heap.size → X.Pt b → H b = X.H0 b

structure Ea (X : Cx) (e : Env) (D : List Deferred) (a : Act) : Prop where
  size : a.tmps.size = X.N
  get : ∀ i v, e.get i = some v → a.tmps[i]? = some v
  dfr : a.defers = D

/-- From every such state on, what is to be done comes to its end. -/
def T (P : Program) (X : Cx) (e : Env) (l : List (Nat × Obj)) (H : Hp) (D : List Deferred) (k : List It) : Prop :=
  ∀ a w, Ea X e D a → Wd X l H w → wpK P X.ro X.Q k .normal a w

section wd
variable {X : Cx} {l l' : List (Nat × Obj)} {H : Hp} {w : World}

theorem Wd.lt (h : Wd X l H w) {p : Nat × Obj} (hp : p ∈ l) : p.1 < w.heap.size := (Array.getElem?_eq_some_iff.1 (h.own p hp).1).1
theorem Wd.ltH (h : Wd X l H w) {b : Nat} {o : Obj} (hp : H b = some o) : b < w.heap.size := (Array.getElem?_eq_some_iff.1 (h.fro b o hp)).1
theorem Wd.none_new (h : Wd X l H w) : H w.heap.size = none := by
  cases hh : H w.heap.size with
  | none => rfl
  | some o => have := h.ltH hh; omega

theorem Wd.alloc (h : Wd X l H w) (o : Obj) : Wd X ((w.heap.size, o) :: l) H (w.alloc o) := by
  refine ⟨?_, ?_, ?_, h.keep.trans (Keep.alloc _ w o), h.le, h.ext⟩
  · intro p hp
    rcases List.mem_cons.1 hp with rfl | hp
    · refine ⟨Go.heap_alloc_new w o, h.none_new, fun hlt => ?_⟩
      have := h.keep.size
      simp only at hlt; omega
    · obtain ⟨h1, h2, h3⟩ := h.own p hp
      exact ⟨(Go.heap_alloc_old w o (h.lt hp)).trans h1, h2, h3⟩
  · rw [List.map_cons, List.nodup_cons]
    refine ⟨fun hm => ?_, h.nd⟩
    obtain ⟨p, hp, he⟩ := List.mem_map.1 hm
    have := h.lt hp
    simp only at he; omega
  · intro b o' hb
    exact (Go.heap_alloc_old w o (h.ltH hb)).trans (h.fro b o' hb)

theorem Wd.drew (h : Wd X l H w) : Wd X l H w.drew := ⟨h.own, h.nd, h.fro, h.keep.trans (Keep.drew _ w), h.le, h.ext⟩

/-- One block's content is another; the block's number stays. -/
inductive Upd : List (Nat × Obj) → Nat → Obj → Obj → List (Nat × Obj) → Prop
  | head {l b o o'} : Upd ((b, o) :: l) b o o' ((b, o') :: l)
  | tail {p l b o o' l'} : Upd l b o o' l' → Upd (p :: l) b o o' (p :: l')

theorem Upd.mem {b : Nat} {o o' : Obj} (h : Upd l b o o' l') : (b, o) ∈ l := by
  induction h with
  | head => exact List.mem_cons_self
  | tail _ ih => exact List.mem_cons_of_mem _ ih
theorem Upd.keys {b : Nat} {o o' : Obj} (h : Upd l b o o' l') : l'.map (·.1) = l.map (·.1) := by
  induction h with
  | head => rfl
  | tail _ ih => simp [ih]
theorem Upd.mem' {b : Nat} {o o' : Obj} (h : Upd l b o o' l') (hn : (l.map (·.1)).Nodup) : ∀ p ∈ l', p = (b, o') ∨ (p ∈ l ∧ p.1 ≠ b) := by
  induction h with
  | @head l b o o' =>
    intro p hp
    rw [List.map_cons, List.nodup_cons] at hn
    rcases List.mem_cons.1 hp with rfl | hp
    · exact .inl rfl
    · exact .inr ⟨List.mem_cons_of_mem _ hp, fun e => hn.1 (e ▸ List.mem_map.2 ⟨p, hp, rfl⟩)⟩
  | @tail q l b o o' l' hu ih =>
    intro p hp
    rw [List.map_cons, List.nodup_cons] at hn
    rcases List.mem_cons.1 hp with rfl | hp
    · refine .inr ⟨List.mem_cons_self, fun e => hn.1 ?_⟩
      exact List.mem_map.2 ⟨_, hu.mem, e.symm⟩
    · rcases ih hn.2 p hp with h | ⟨h1, h2⟩
      · exact .inl h
      · exact .inr ⟨List.mem_cons_of_mem _ h1, h2⟩

theorem Wd.upd (h : Wd X l H w) {b : Nat} {o o' : Obj} (hu : Upd l b o o' l') : Wd X l' H (w.putObj b o') := by
  obtain ⟨ho, hn, hp⟩ := h.own _ hu.mem
  have hlt := h.lt hu.mem
  simp only at ho hn hp hlt
  refine ⟨?_, by rw [hu.keys]; exact h.nd, ?_, ?_, h.le, h.ext⟩
  · intro p hp'
    rcases hu.mem' h.nd p hp' with rfl | ⟨h1, h2⟩
    · exact ⟨World.putObj_heap_same hlt, hn, hp⟩
    · obtain ⟨a1, a2, a3⟩ := h.own p h1
      exact ⟨(World.putObj_heap_other h2).trans a1, a2, a3⟩
  · intro c oc hc
    refine (World.putObj_heap_other (fun e => ?_)).trans (h.fro c oc hc)
    subst e; rw [hn] at hc; cases hc
  · have := h.keep.size
    refine ⟨h.keep.os, h.keep.tape, h.keep.output, by simp [World.putObj]; exact this, h.keep.drawn, fun k hk hk' => ?_⟩
    refine (World.putObj_heap_other (fun e => ?_)).trans (h.keep.block k hk hk')
    subst e; exact hp hk hk'

theorem Upd.app {b : Nat} {o o' : Obj} {x : List (Nat × Obj)} (h : Upd l b o o' l') : Upd (x ++ l) b o o' (x ++ l') := by
  induction x with
  | nil => exact h
  | cons p x ih => exact Upd.tail ih
theorem Wd.sub (h : Wd X l H w) (hs : List.Sublist l' l) : Wd X l' H w :=
  ⟨fun p hp => h.own p (hs.subset hp), h.nd.sublist (hs.map _), h.fro, h.keep, h.le, h.ext⟩
theorem Wd.perm (h : Wd X l H w) (hs : l'.Perm l) : Wd X l' H w :=
  ⟨fun p hp => h.own p (hs.mem_iff.1 hp), (hs.map _).nodup_iff.2 h.nd, h.fro, h.keep, h.le, h.ext⟩

theorem Hp.le_put {H : Hp} {b : Nat} {o : Obj} (h : H b = none) : H.le (H.put b o) := fun i o' hi => by
  unfold Hp.put
  split
  · rename_i e; subst e; rw [h] at hi; cases hi
  · exact hi
theorem Hp.put_same {H : Hp} {b : Nat} {o : Obj} : H.put b o b = some o := by simp [Hp.put]
theorem Hp.put_other {H : Hp} {b i : Nat} {o : Obj} (h : i ≠ b) : H.put b o i = H i := by simp [Hp.put, h]

/-- A block is given up for writing. -/
theorem Wd.freeze {b : Nat} {o : Obj} (h : Wd X ((b, o) :: l) H w) : Wd X l (H.put b o) w := by
  obtain ⟨ho, hn, hp⟩ := h.own _ List.mem_cons_self
  have hnd := h.nd
  rw [List.map_cons, List.nodup_cons] at hnd
  simp only at ho hn hp
  refine ⟨fun p hp' => ?_, hnd.2, ?_, h.keep, h.le.trans (Hp.le_put hn), fun c hc hc' => ?_⟩
  · obtain ⟨a1, a2, a3⟩ := h.own p (List.mem_cons_of_mem _ hp')
    refine ⟨a1, ?_, a3⟩
    rw [Hp.put_other (fun e => hnd.1 (by subst e; exact List.mem_map.2 ⟨p, hp', rfl⟩))]; exact a2
  · intro c oc hc
    by_cases e : c = b
    · subst e; rw [Hp.put_same] at hc; cases hc; exact ho
    · rw [Hp.put_other e] at hc; exact h.fro c oc hc
  · rw [Hp.put_other (fun e => by subst e; exact hp hc hc')]; exact h.ext c hc hc'

/-- Behind a call that writes nothing that lay. -/
theorem Wd.call {H' : Hp} {w' : World} (h : Wd X l H w) (hk : Keep All w w') (hin : Hin H' w') (he : ∀ b, b < w.heap.size → H' b = H b) : Wd X l H' w' := by
  refine ⟨fun p hp => ?_, h.nd, hin, h.keep.trans (hk.mono fun _ _ _ => trivial), ?_, fun b hb hb' => ?_⟩
  · obtain ⟨a1, a2, a3⟩ := h.own p hp
    exact ⟨(hk.block _ (h.lt hp) trivial).trans a1, (he _ (h.lt hp)).trans a2, a3⟩
  · intro b o hb
    have := h.le b o hb
    rw [he b (h.ltH this)]; exact this
  · rw [he b (Nat.lt_of_lt_of_le hb h.keep.size)]; exact h.ext b hb hb'
theorem Wd.callV {w' : World} (h : Wd X l H w) (hk : Keep All w w') : Wd X l H w' :=
  h.call hk (fun b o hb => (hk.block b (h.ltH hb) trivial).trans (h.fro b o hb)) fun _ _ => rfl
end wd

section ea
variable {X : Cx} {e : Env} {D : List Deferred} {a : Act}

def evE (e : Env) : Operand → Option Value
  | .tmp t => e.get t
  | .const v => some v
  | .global g => some (.pointer (some ⟨g, 0, none⟩))
  | .func f => some (.func (.func f) #[] #[])

theorem Ea.getD (h : Ea X e D a) {i : Nat} {v : Value} (hv : e.get i = some v) : a.tmps.getD i undef = v := by
  have := h.get i v hv
  rw [Array.getD_eq_getD_getElem?, this]; rfl
theorem Ea.eval (h : Ea X e D a) {x : Operand} {v : Value} (hv : evE e x = some v) : a.eval x = v := by
  cases x with
  | tmp t => exact h.getD hv
  | const c => exact Option.some.inj hv
  | global g => exact Option.some.inj hv
  | func f => exact Option.some.inj hv

theorem Ea.put (h : Ea X e D a) {d : Nat} (hd : d < X.N) (v : Value) : Ea X ((d, v) :: e) D (a.put (some d) v) := by
  refine ⟨by simpa [Act.put] using h.size, fun i u hi => ?_, h.dfr⟩
  show (a.tmps.setIfInBounds d v)[i]? = some u
  rw [Array.getElem?_setIfInBounds]
  simp only [Env.get] at hi
  by_cases e' : i = d
  · subst e'
    rw [Nat.beq_refl] at hi
    simp only [cond_true, Option.some.injEq] at hi
    rw [if_pos rfl, if_pos (by rw [h.size]; exact hd), hi]
  · have : Nat.beq i d = false := by rw [Bool.eq_false_iff]; intro hh; exact e' (Nat.eq_of_beq_eq_true hh)
    rw [this] at hi
    rw [if_neg (fun e2 => e' e2.symm)]
    exact h.get i u hi

/-- Fewer facts on the slots. -/
def Env.Sub : Env → Env → Prop
  | [], _ => True
  | (j, v) :: e', e => e.get j = some v ∧ Env.Sub e' e
theorem Env.Sub.spec : ∀ {e' e : Env}, Env.Sub e' e → ∀ i v, e'.get i = some v → e.get i = some v
  | [], _, _, _, _, h => by cases h
  | (j, u) :: e', e, ⟨h1, h2⟩, i, v, h => by
    simp only [Env.get] at h
    by_cases e1 : Nat.beq i j = true
    · rw [e1] at h
      simp only [cond_true, Option.some.injEq] at h
      rw [Nat.eq_of_beq_eq_true e1, ← h]; exact h1
    · have e2 : Nat.beq i j = false := Bool.eq_false_iff.2 e1
      rw [e2] at h
      exact h2.spec i v h
theorem Ea.sub {e' : Env} (h : Ea X e D a) (hs : Env.Sub e' e) : Ea X e' D a := ⟨h.size, fun i v hi => h.get i v (hs.spec i v hi), h.dfr⟩
end ea

section rules
variable {P : Program} {X : Cx} {e : Env} {l : List (Nat × Obj)} {H : Hp} {D : List Deferred} {k : List It}

theorem T.weak {e' : Env} {l' : List (Nat × Obj)} (he : Env.Sub e' e) (hl : List.Sublist l' l) (h : T P X e' l' H D k) : T P X e l H D k :=
  fun a w ha hw => h a w (ha.sub he) (hw.sub hl)
theorem T.perm {l' : List (Nat × Obj)} (hl : l'.Perm l) (h : T P X e l' H D k) : T P X e l H D k := fun a w ha hw => h a w ha (hw.perm hl)
theorem T.seq {x y : Code} (h : T P X e l H D (.code x :: .code y :: k)) : T P X e l H D (.code (.seq x y) :: k) := fun a w ha hw => wpK_seq (h a w ha hw)
theorem T.block {id : Nat} {c : Code} (h : T P X e l H D (.code c :: .blk id :: k)) : T P X e l H D (.code (.block id c) :: k) := fun a w ha hw => wpK_block (h a w ha hw)
theorem T.skip (h : T P X e l H D k) : T P X e l H D (.code .skip :: k) := fun a w ha hw => wpK_skip (h a w ha hw)
theorem T.blkEnd {id : Nat} (h : T P X e l H D k) : T P X e l H D (.blk id :: k) := fun a w ha hw => h a w ha hw
theorem T.exit {id : Nat} {k' : List It} (hx : exitK id k = some k') (h : T P X e l H D k') : T P X e l H D (.code (.exit id) :: k) := fun a w ha hw => wpK_exit hx (h a w ha hw)
theorem T.region {id : Nat} {os : List Oper} (h : T P X e l H D (.ops os.toArray os :: k)) : T P X e l H D (.code (.region id os.toArray false) :: k) := fun a w ha hw => wpK_region (h a w ha hw)
theorem T.opsNil {all : Array Oper} (h : T P X e l H D k) : T P X e l H D (.ops all [] :: k) := fun a w ha hw => h a w ha hw
theorem T.cond {c : Operand} {x y : Code} {t : Bool} (hc : evE e c = some (.bool t)) (ht : t = true → T P X e l H D (.code x :: k)) (hf : t = false → T P X e l H D (.code y :: k)) :
    T P X e l H D (.code (.cond c x y) :: k) := fun a w ha hw => by
  refine wpK_cond (ha.eval hc) ?_
  cases t
  · exact hf rfl a w ha hw
  · exact ht rfl a w ha hw
theorem T.condD {c : Operand} {x y : Code} {p : Prop} {i : Decidable p} (hc : evE e c = some (.bool (decide p))) (ht : p → T P X e l H D (.code x :: k)) (hf : ¬ p → T P X e l H D (.code y :: k)) :
    T P X e l H D (.code (.cond c x y) :: k) := T.cond hc (fun h => ht (of_decide_eq_true h)) (fun h => hf (of_decide_eq_false h))
theorem T.condT {c : Operand} {x y : Code} {t : Bool} (hc : evE e c = some (.bool t)) (h : t = true) (ht : T P X e l H D (.code x :: k)) : T P X e l H D (.code (.cond c x y) :: k) :=
  T.cond hc (fun _ => ht) (fun h' => by rw [h] at h'; cases h')
theorem T.condF {c : Operand} {x y : Code} {t : Bool} (hc : evE e c = some (.bool t)) (h : t = false) (hf : T P X e l H D (.code y :: k)) : T P X e l H D (.code (.cond c x y) :: k) :=
  T.cond hc (fun h' => by rw [h] at h'; cases h') (fun _ => hf)
theorem T.ret (h : ∀ a w, Ea X e D a → Wd X l H w → X.Q .ret a w) : T P X e l H D (.code .ret :: k) := fun a w ha hw => wpK_ret (h a w ha hw)
theorem T.fall (h : ∀ a w, Ea X e D a → Wd X l H w → X.Q .normal a w) : T P X e l H D [] := fun a w ha hw => h a w ha hw
theorem T.done {J : Act → World → Prop} (h : ∀ a w, Ea X e D a → Wd X l H w → J a w) : T P X e l H D (.done J :: k) := fun a w ha hw => h a w ha hw

/-- What a round must come to. -/
def LoopJ {γ : Type} (X : Cx) (D : List Deferred) (C : γ → Prop) (eg : γ → Env) (lg : γ → List (Nat × Obj)) (Hg : γ → Hp) (μ : γ → Nat) (g : γ) : Act → World → Prop :=
  fun a w => ∃ g', (C g' ∧ Ea X (eg g') D a ∧ Wd X (lg g') (Hg g') w) ∧ μ g' < μ g
/-- A loop: a ghost g; what holds at its head: 'C g' and the state. -/
theorem T.loop {γ : Type} {body : Code} (C : γ → Prop) (eg : γ → Env) (lg : γ → List (Nat × Obj)) (Hg : γ → Hp) (μ : γ → Nat) (g0 : γ) (h0 : C g0) (he0 : Env.Sub (eg g0) e) (hl0 : List.Sublist (lg g0) l) (hH0 : Hg g0 = H)
    (h : ∀ g, C g → T P X (eg g) (lg g) (Hg g) D (.code body :: .done (LoopJ X D C eg lg Hg μ g) :: k)) :
    T P X e l H D (.code (.loop body) :: k) := fun a w ha hw =>
  wpK_loop (fun g a w => C g ∧ Ea X (eg g) D a ∧ Wd X (lg g) (Hg g) w) μ g0 ⟨h0, ha.sub he0, by rw [hH0]; exact hw.sub hl0⟩ fun g a w ⟨hc, ha, hw⟩ => h g hc a w ha hw
theorem T.next {γ : Type} {C : γ → Prop} {eg : γ → Env} {lg : γ → List (Nat × Obj)} {Hg : γ → Hp} {μ : γ → Nat} {g : γ} (g' : γ) (hc : C g') (hm : μ g' < μ g) (he : Env.Sub (eg g') e) (hl : List.Sublist (lg g') l) (hH : Hg g' = H) :
    T P X e l H D (.done (LoopJ X D C eg lg Hg μ g) :: k) :=
  T.done fun a w ha hw => ⟨g', ⟨hc, ha.sub he, by rw [hH]; exact hw.sub hl⟩, hm⟩

/-! ### Operations -/
def Wanted (e : Env) (all : Array Oper) (o : Oper) : Prop := ∀ (X : Cx) (D : List Deferred) (a : Act), Ea X e D a → Region.wanted o (yielded all a.tmps) = true
def Unwanted (e : Env) (all : Array Oper) (o : Oper) : Prop := ∀ (X : Cx) (D : List Deferred) (a : Act), Ea X e D a → Region.wanted o (yielded all a.tmps) = false
theorem Wanted.none {all : Array Oper} {dst : Option Tmp} {op : Op} {ty : TypeId} {pos : String} {after : Array Edge} : Wanted e all ⟨dst, op, ty, pos, after, none⟩ := fun _ _ _ _ => rfl
theorem yielded_of {D : List Deferred} {a : Act} (ha : Ea X e D a) {all : Array Oper} {j d : Nat} {t : Bool} (hj : (all[j]?).bind (·.dst) = some d) (he : e.get d = some (.bool t)) : yielded all a.tmps j = some t := by
  unfold yielded
  rw [hj]
  simp [ha.get d _ he]
theorem Wanted.guard {all : Array Oper} {dst : Option Tmp} {op : Op} {ty : TypeId} {pos : String} {after : Array Edge} {j d : Nat} {want t : Bool} (hj : (all[j]?).bind (·.dst) = some d) (he : e.get d = some (.bool t)) (ht : t = want) :
    Wanted e all ⟨dst, op, ty, pos, after, some (j, want)⟩ := fun X D a ha => by
  subst ht; simp [Region.wanted, yielded_of ha hj he]
theorem Unwanted.guard {all : Array Oper} {dst : Option Tmp} {op : Op} {ty : TypeId} {pos : String} {after : Array Edge} {j d : Nat} {want t : Bool} (hj : (all[j]?).bind (·.dst) = some d) (he : e.get d = some (.bool t)) (ht : t = !want) :
    Unwanted e all ⟨dst, op, ty, pos, after, some (j, want)⟩ := fun X D a ha => by
  subst ht; simp [Region.wanted, yielded_of ha hj he]
theorem Unwanted.undef {all : Array Oper} {dst : Option Tmp} {op : Op} {ty : TypeId} {pos : String} {after : Array Edge} {j d : Nat} {want : Bool} (hj : (all[j]?).bind (·.dst) = some d) (he : e.get d = some undef) :
    Unwanted e all ⟨dst, op, ty, pos, after, some (j, want)⟩ := fun X D a ha => by
  have : yielded all a.tmps j = none := by
    unfold yielded
    rw [hj]
    simp [ha.get d _ he, Go.undef]
  simp [Region.wanted, this]

/-- What a run is, in a round or not, for all but a deferring operation. -/
theorem run_semAt {ro : Option Nat} {ρ : Operand → Value} {o : Oper} {w w' : World} {nx : Next} (h : (execOp ρ o).run P w = .ok nx w') (hnx : ∀ d, nx ≠ .defer d) : (o.semAt ro ρ).run P w = .ok nx w' := by
  cases ro with
  | none => rw [Oper.semAt_none]; exact h
  | some r =>
    rw [Oper.semAt_some]
    · exact h
    · intro c hc
      unfold execOp at h
      rw [hc] at h
      simp only [Sem.run_bind] at h
      cases hr : (resolve ρ c o.type).run P w with
      | ok d w2 => rw [hr] at h; simp only [Result.andThen_ok, Sem.run_pure] at h; cases h; exact hnx _ rfl
      | halt x w2 => rw [hr] at h; cases h

theorem wpList_cons {ro : Option Nat} {all : Array Oper} {Q : Post} {rest : List Oper} {o : Oper} {a : Act} {w : World} (hw : Region.wanted o (yielded all a.tmps) = true) (h : o.uponIn (Fw ro) 0 P a (wpListIn (Fw ro) 0 P all Q rest) Q ((o.semAt ro a.eval).run P w)) :
    wpListIn (Fw ro) 0 P all Q (o :: rest) a w := by
  simp only [wpListIn, hw, if_true]
  exact ⟨fun _ _ => trivial, h⟩

/-- An operation that only yields a value. -/
def PV (P : Program) (e : Env) (l : List (Nat × Obj)) (H : Hp) (o : Oper) (v : Value) : Prop :=
  ∀ (X : Cx) (D : List Deferred) (a : Act) (w : World), Ea X e D a → Wd X l H w → (execOp a.eval o).run P w = .ok (.value v) w

theorem T.pv {all : Array Oper} {rest : List Oper} {o : Oper} {v : Value} {d : Nat} (hv : PV P e l H o v) (hw : Wanted e all o) (hd : o.dst = some d) (hN : Nat.blt d X.N = true)
    (h : T P X ((d, v) :: e) l H D (.ops all rest :: k)) : T P X e l H D (.ops all (o :: rest) :: k) := fun a w ha hw' => by
  refine wpList_cons (hw X D a ha) ?_
  rw [run_semAt (hv X D a w ha hw') (fun _ => by simp), Oper.uponIn_value, hd]
  exact h _ w (ha.put (by simpa using hN) v) hw'
theorem T.pass {all : Array Oper} {rest : List Oper} {o : Oper} {d : Nat} (hw : Unwanted e all o) (hd : o.dst = some d) (hN : Nat.blt d X.N = true)
    (h : T P X ((d, undef) :: e) l H D (.ops all rest :: k)) : T P X e l H D (.ops all (o :: rest) :: k) := fun a w ha hw' => by
  show wpListIn _ _ _ _ _ _ _ _
  simp only [wpListIn, hw X D a ha]
  refine ⟨fun _ _ => trivial, ?_⟩
  rw [hd]
  exact h _ w (ha.put (by simpa using hN) undef) hw'
end rules



class IsOne (P : Program) (t : TypeId) : Prop where
  h : ∀ w, (isAgg t).run P w = .ok false w
  s : ∀ w, (sizeOf t).run P w = .ok 1 w
class IsAgg (P : Program) (t : TypeId) (n : outParam Nat) : Prop where
  h : ∀ w, (isAgg t).run P w = .ok true w
  s : ∀ w, (sizeOf t).run P w = .ok n w
class FldAt (P : Program) (s : TypeId) (f : Nat) (off : outParam Nat) : Prop where
  h : ∀ b o w, (Instr.fieldAt s (.pointer (some ⟨b, o, none⟩)) f).run P w = .ok (.pointer (some ⟨b, o + off, none⟩)) w
class SlOf (P : Program) (t : TypeId) (elem sz : outParam Nat) : Prop where
  h : P.underlying t = some (.slice elem)
  s : ∀ w, (sizeOf elem).run P w = .ok sz w
class StrT (P : Program) (t : TypeId) : Prop where
  h : P.underlying t = some .string
class IntT (P : Program) (t : TypeId) (k : outParam IntKind) : Prop where
  h : P.underlying t = some (.int k)
class BoolT (P : Program) (t : TypeId) : Prop where
  h : P.underlying t = some .bool
class ZeroOf (P : Program) (t : TypeId) (z : outParam (List Value)) : Prop where
  h : ∃ v, (∀ w, (zeroValue t).run P w = .ok v w) ∧ v.cells = z.toArray
class PlacesOf (P : Program) (t : TypeId) (pl : outParam (List (Nat × Nat))) (z : outParam (List Value)) : Prop where
  h : ∀ parts : Array (Nat × Value), ∀ w, (Instr.build t parts).run P w = (match Instr.fill (pl[·]?) z.toArray parts.toList with | some cells => .ok (.agg cells) w | none => .halt (.stuck "build: no such field, or a part of the wrong size") w)

def SomeObj (l : List (Nat × Obj)) (H : Hp) (b : Nat) (o : Obj) : Prop := (b, o) ∈ l ∨ H b = some o

section
variable {P : Program} {e : Env} {l : List (Nat × Obj)} {H : Hp}
variable {dst : Option Tmp} {ty : TypeId} {pos : String} {after : Array Edge} {gd : Option (Nat × Bool)}

theorem SomeObj.own {b : Nat} {o : Obj} (h : (b, o) ∈ l) : SomeObj l H b o := .inl h
theorem SomeObj.fro {b : Nat} {o : Obj} (h : H b = some o) : SomeObj l H b o := .inr h
theorem SomeObj.heap {X : Cx} {w : World} {b : Nat} {o : Obj} (h : SomeObj l H b o) (hw : Wd X l H w) : w.heap[b]? = some o := by
  rcases h with h | h
  · exact (hw.own _ h).1
  · exact hw.fro _ _ h

theorem PV.move {x : Operand} {v : Value} (hx : evE e x = some v) : PV P e l H ⟨dst, .move x, ty, pos, after, gd⟩ v := fun X D a w ha hw => by
  simp [execOp, ha.eval hx]
theorem PV.assign {x : Operand} {v : Value} (hx : evE e x = some v) : PV P e l H ⟨dst, .assign x, ty, pos, after, gd⟩ v := fun X D a w ha hw => by
  simp [execOp, ha.eval hx]
theorem PV.pickT {c x y : Operand} {t : Bool} {v : Value} (hc : evE e c = some (.bool t)) (ht : t = true) (hx : evE e x = some v) : PV P e l H ⟨dst, .pick c x y, ty, pos, after, gd⟩ v := fun X D a w ha hw => by
  subst ht; simp [execOp, ha.eval hc, ha.eval hx, asBool]
theorem PV.pickF {c x y : Operand} {t : Bool} {v : Value} (hc : evE e c = some (.bool t)) (ht : t = false) (hx : evE e y = some v) : PV P e l H ⟨dst, .pick c x y, ty, pos, after, gd⟩ v := fun X D a w ha hw => by
  subst ht; simp [execOp, ha.eval hc, ha.eval hx, asBool]

theorem wrap64_id {n : Int} (h : -9223372036854775808 ≤ n ∧ n ≤ 9223372036854775807) : IntKind.i64.wrap n = n := IntWalk.i64_in _ (by omega)

theorem PV.add {x y : Operand} {t t' : TypeId} {m n : Int} (hx : evE e x = some (.int .i64 m)) (hy : evE e y = some (.int .i64 n)) (hr : -9223372036854775808 ≤ m + n ∧ m + n ≤ 9223372036854775807) :
    PV P e l H ⟨dst, .binOp .add t x y t', ty, pos, after, gd⟩ (.int .i64 (m + n)) := fun X D a w ha hw => by
  simp [execOp, ha.eval hx, ha.eval hy, binOp, eqGuard, Op.intArith, wrap64_id hr]
theorem PV.sub {x y : Operand} {t t' : TypeId} {m n : Int} (hx : evE e x = some (.int .i64 m)) (hy : evE e y = some (.int .i64 n)) (hr : -9223372036854775808 ≤ m - n ∧ m - n ≤ 9223372036854775807) :
    PV P e l H ⟨dst, .binOp .sub t x y t', ty, pos, after, gd⟩ (.int .i64 (m - n)) := fun X D a w ha hw => by
  simp [execOp, ha.eval hx, ha.eval hy, binOp, eqGuard, Op.intArith, wrap64_id hr]
theorem PV.mul {x y : Operand} {t t' : TypeId} {m n : Int} (hx : evE e x = some (.int .i64 m)) (hy : evE e y = some (.int .i64 n)) (hr : -9223372036854775808 ≤ m * n ∧ m * n ≤ 9223372036854775807) :
    PV P e l H ⟨dst, .binOp .mul t x y t', ty, pos, after, gd⟩ (.int .i64 (m * n)) := fun X D a w ha hw => by
  simp [execOp, ha.eval hx, ha.eval hy, binOp, eqGuard, Op.intArith, wrap64_id hr]
theorem PV.addK {x y : Operand} {t t' : TypeId} {k : IntKind} {m n : Int} (hx : evE e x = some (.int k m)) (hy : evE e y = some (.int k n)) :
    PV P e l H ⟨dst, .binOp .add t x y t', ty, pos, after, gd⟩ (.int k (k.wrap (m + n))) := fun X D a w ha hw => by
  simp [execOp, ha.eval hx, ha.eval hy, binOp, eqGuard, Op.intArith]
theorem PV.subK {x y : Operand} {t t' : TypeId} {k : IntKind} {m n : Int} (hx : evE e x = some (.int k m)) (hy : evE e y = some (.int k n)) :
    PV P e l H ⟨dst, .binOp .sub t x y t', ty, pos, after, gd⟩ (.int k (k.wrap (m - n))) := fun X D a w ha hw => by
  simp [execOp, ha.eval hx, ha.eval hy, binOp, eqGuard, Op.intArith]
theorem PV.lss {x y : Operand} {t t' : TypeId} {k : IntKind} {m n : Int} (hx : evE e x = some (.int k m)) (hy : evE e y = some (.int k n)) :
    PV P e l H ⟨dst, .binOp .lss t x y t', ty, pos, after, gd⟩ (.bool (decide (m < n))) := fun X D a w ha hw => by
  simp [execOp, ha.eval hx, ha.eval hy, binOp, eqGuard, Op.intCmp]
theorem PV.leq {x y : Operand} {t t' : TypeId} {k : IntKind} {m n : Int} (hx : evE e x = some (.int k m)) (hy : evE e y = some (.int k n)) :
    PV P e l H ⟨dst, .binOp .leq t x y t', ty, pos, after, gd⟩ (.bool (decide (m ≤ n))) := fun X D a w ha hw => by
  simp [execOp, ha.eval hx, ha.eval hy, binOp, eqGuard, Op.intCmp]
theorem PV.gtr {x y : Operand} {t t' : TypeId} {k : IntKind} {m n : Int} (hx : evE e x = some (.int k m)) (hy : evE e y = some (.int k n)) :
    PV P e l H ⟨dst, .binOp .gtr t x y t', ty, pos, after, gd⟩ (.bool (decide (n < m))) := fun X D a w ha hw => by
  simp [execOp, ha.eval hx, ha.eval hy, binOp, eqGuard, Op.intCmp]
theorem PV.geq {x y : Operand} {t t' : TypeId} {k : IntKind} {m n : Int} (hx : evE e x = some (.int k m)) (hy : evE e y = some (.int k n)) :
    PV P e l H ⟨dst, .binOp .geq t x y t', ty, pos, after, gd⟩ (.bool (decide (n ≤ m))) := fun X D a w ha hw => by
  simp [execOp, ha.eval hx, ha.eval hy, binOp, eqGuard, Op.intCmp]
theorem PV.eql {x y : Operand} {t t' : TypeId} {k : IntKind} {m n : Int} (hx : evE e x = some (.int k m)) (hy : evE e y = some (.int k n)) :
    PV P e l H ⟨dst, .binOp .eql t x y t', ty, pos, after, gd⟩ (.bool (decide (m = n))) := fun X D a w ha hw => by
  have : (m == n) = decide (m = n) := rfl
  simp [execOp, ha.eval hx, ha.eval hy, this, eqGuard_at_int, binOp_eql, binOp_neq]
theorem PV.neq {x y : Operand} {t t' : TypeId} {k : IntKind} {m n : Int} (hx : evE e x = some (.int k m)) (hy : evE e y = some (.int k n)) :
    PV P e l H ⟨dst, .binOp .neq t x y t', ty, pos, after, gd⟩ (.bool (decide (m ≠ n))) := fun X D a w ha hw => by
  have : (m != n) = decide (m ≠ n) := by by_cases h : m = n <;> simp [h]
  simp [execOp, ha.eval hx, ha.eval hy, this, eqGuard_at_int, binOp_eql, binOp_neq]
theorem ba_eq {s t : ByteArray} : (s.toList == t.toList) = decide (s = t) := by
  rw [ByteArray.toList_eq, ByteArray.toList_eq]
  by_cases h : s = t
  · subst h; simp
  · have : ¬ s.data.toList = t.data.toList := fun h' => h (by cases s; cases t; simp at h'; simp [h'])
    simp [h]
    simpa using this
theorem PV.seql {x y : Operand} {t t' : TypeId} {m n : ByteArray} (hx : evE e x = some (.string m)) (hy : evE e y = some (.string n)) :
    PV P e l H ⟨dst, .binOp .eql t x y t', ty, pos, after, gd⟩ (.bool (decide (m = n))) := fun X D a w ha hw => by
  simp [execOp, ha.eval hx, ha.eval hy, eqGuard_at_string, binOp_string_eql, binOp_string_neq, binOp_string_lss, ba_eq]
theorem PV.sneq {x y : Operand} {t t' : TypeId} {m n : ByteArray} (hx : evE e x = some (.string m)) (hy : evE e y = some (.string n)) :
    PV P e l H ⟨dst, .binOp .neq t x y t', ty, pos, after, gd⟩ (.bool (decide (m ≠ n))) := fun X D a w ha hw => by
  simp [execOp, ha.eval hx, ha.eval hy, eqGuard_at_string, binOp_string_eql, binOp_string_neq, binOp_string_lss, ba_eq]
theorem PV.slss {x y : Operand} {t t' : TypeId} {m n : ByteArray} (hx : evE e x = some (.string m)) (hy : evE e y = some (.string n)) :
    PV P e l H ⟨dst, .binOp .lss t x y t', ty, pos, after, gd⟩ (.bool (Op.bytesLess m.data.toList n.data.toList)) := fun X D a w ha hw => by
  simp [execOp, ha.eval hx, ha.eval hy, eqGuard_at_string, binOp_string_lss, ByteArray.toList_eq]
theorem PV.sgtr {x y : Operand} {t t' : TypeId} {m n : ByteArray} (hx : evE e x = some (.string m)) (hy : evE e y = some (.string n)) :
    PV P e l H ⟨dst, .binOp .gtr t x y t', ty, pos, after, gd⟩ (.bool (!(Op.bytesLess m.data.toList n.data.toList || decide (m = n)))) := fun X D a w ha hw => by
  simp only [← ByteArray.toList_eq]
  simp [execOp, ha.eval hx, ha.eval hy, binOp, eqGuard, Op.stringOp, ba_eq]
theorem PV.sadd {x y : Operand} {t t' : TypeId} {m n : ByteArray} (hx : evE e x = some (.string m)) (hy : evE e y = some (.string n)) (hs : m.size + n.size ≤ 9223372036854775807) :
    PV P e l H ⟨dst, .binOp .add t x y t', ty, pos, after, gd⟩ (.string (m ++ n)) := fun X D a w ha hw => by
  have : ¬ (9223372036854775807 < (m.size : Int) + n.size) := by omega
  simp [execOp, ha.eval hx, ha.eval hy, binOp, eqGuard, Op.stringOp, this]
theorem PV.bneq {t : TypeId} [ht : BoolT P t] {x y : Operand} {t' : TypeId} {m n : Bool} (hx : evE e x = some (.bool m)) (hy : evE e y = some (.bool n)) :
    PV P e l H ⟨dst, .binOp .neq t x y t', ty, pos, after, gd⟩ (.bool (!(m == n))) := fun X D a w ha hw => by
  simp [execOp, ha.eval hx, ha.eval hy, eqGuard_at_bool, run_neq_bool w t m n ht.h]
theorem PV.not {x : Operand} {t : TypeId} {m : Bool} (hx : evE e x = some (.bool m)) : PV P e l H ⟨dst, .unOp .not t x, ty, pos, after, gd⟩ (.bool (!m)) := fun X D a w ha hw => by
  simp [execOp, ha.eval hx, Op.unary]
theorem PV.conv64 {s t : TypeId} {ks : IntKind} [hs : IntT P s ks] [ht : IntT P t .i64] {x : Operand} {k : IntKind} {m : Int} (hx : evE e x = some (.int k m)) (hr : -9223372036854775808 ≤ m ∧ m ≤ 9223372036854775807) :
    PV P e l H ⟨dst, .convert s t x, ty, pos, after, gd⟩ (.int .i64 m) := fun X D a w ha hw => by
  simp [execOp, ha.eval hx, convert, run_underlying hs.h, run_underlying ht.h, Conv.intToInt, wrap64_id hr]
theorem PV.convK {s t : TypeId} {ks kt : IntKind} [hs : IntT P s ks] [ht : IntT P t kt] {x : Operand} {k : IntKind} {m : Int} (hx : evE e x = some (.int k m)) :
    PV P e l H ⟨dst, .convert s t x, ty, pos, after, gd⟩ (.int kt (kt.wrap m)) := fun X D a w ha hw => by
  simp [execOp, ha.eval hx, convert, run_underlying hs.h, run_underlying ht.h, Conv.intToInt]
theorem PV.fieldAddr {s : TypeId} {f off : Nat} [h : FldAt P s f off] {x : Operand} {b o : Nat} (hx : evE e x = some (.pointer (some ⟨b, o, none⟩))) :
    PV P e l H ⟨dst, .fieldAddr s x f, ty, pos, after, gd⟩ (.pointer (some ⟨b, o + off, none⟩)) := fun X D a w ha hw => by
  simp [execOp, ha.eval hx, h.h]
theorem PV.lenStr {t : TypeId} [h : StrT P t] {x : Operand} {s : ByteArray} (hx : evE e x = some (.string s)) :
    PV P e l H ⟨dst, .call ⟨.builtin .len, #[x], #[t]⟩, ty, pos, after, gd⟩ (.int .i64 (s.size : Int)) := fun X D a w ha hw => by
  simp [execOp, resolve, invoke, builtin, ha.eval hx, Builtin.len_, run_underlying h.h, goInt]
theorem PV.lenSl {t : TypeId} {el sz : Nat} [h : SlOf P t el sz] {x : Operand} {ad : Option Addr} {n c : Nat} (hx : evE e x = some (.slice ad n c)) :
    PV P e l H ⟨dst, .call ⟨.builtin .len, #[x], #[t]⟩, ty, pos, after, gd⟩ (.int .i64 (n : Int)) := fun X D a w ha hw => by
  simp [execOp, resolve, invoke, builtin, ha.eval hx, Builtin.len_, run_underlying h.h, goInt]
theorem PV.min2 {x y : Operand} {ts : Array TypeId} {k : IntKind} {m n : Int} (hx : evE e x = some (.int k m)) (hy : evE e y = some (.int k n)) :
    PV P e l H ⟨dst, .call ⟨.builtin .min, #[x, y], ts⟩, ty, pos, after, gd⟩ (.int k (min m n)) := fun X D a w ha hw => by
  have : (if n < m then n else m) = min m n := by split <;> omega
  simp [execOp, resolve, invoke, builtin, ha.eval hx, ha.eval hy, run_min_int2, this]
theorem PV.max2 {x y : Operand} {ts : Array TypeId} {k : IntKind} {m n : Int} (hx : evE e x = some (.int k m)) (hy : evE e y = some (.int k n)) :
    PV P e l H ⟨dst, .call ⟨.builtin .max, #[x, y], ts⟩, ty, pos, after, gd⟩ (.int k (max m n)) := fun X D a w ha hw => by
  have : (if n > m then n else m) = max m n := by split <;> omega
  simp [execOp, resolve, invoke, builtin, ha.eval hx, ha.eval hy, run_max_int2, this]
theorem PV.extract {x : Operand} {i : Nat} {vs : List Value} {v : Value} (hx : evE e x = some (.tuple vs.toArray)) (hv : vs[i]? = some v) : PV P e l H ⟨dst, .extract x i, ty, pos, after, gd⟩ v := fun X D a w ha hw => by
  simp [execOp, ha.eval hx, Instr.extract, hv]
theorem PV.makeFunc {fn : Fn} {os : List Operand} {vs : List Value} (hx : os.mapM (evE e) = some vs) : PV P e l H ⟨dst, .makeFunc fn #[] os.toArray, ty, pos, after, gd⟩ (.func fn #[] vs.toArray) := fun X D a w ha hw => by
  have hm : ∀ (os : List Operand) (vs : List Value), os.mapM (evE e) = some vs → os.map a.eval = vs := by
    intro os
    induction os with
    | nil => intro vs h; simp at h; simp [h]
    | cons o os ih =>
      intro vs h
      rw [List.mapM_cons] at h
      cases h1 : evE e o with
      | none => rw [h1] at h; cases h
      | some v =>
        rw [h1] at h
        cases h2 : os.mapM (evE e) with
        | none => rw [h2] at h; cases h
        | some us => rw [h2] at h; simp at h; subst h; simp [ha.eval h1, ih us h2]
  simp [execOp, Instr.makeFunc, hm os vs hx]

theorem ByteArray.getIdx {s : ByteArray} {i : Nat} {c : UInt8} (h : s.data.toList[i]? = some c) : s[i]? = some c := by
  have hi : i < s.data.toList.length := (List.getElem?_eq_some_iff.1 h).1
  rw [ByteArray.getElem?_lt' s i (by simpa using hi)]
  rw [← h]
  simp at hi
  simp [hi]; rfl
theorem PV.indexStr {t : TypeId} [h : StrT P t] {x y : Operand} {s : ByteArray} {k : IntKind} {i : Int} {c : UInt8} (hx : evE e x = some (.string s)) (hy : evE e y = some (.int k i)) (hi : 0 ≤ i) (hc : s.data.toList[i.toNat]? = some c) :
    PV P e l H ⟨dst, .index t x y, ty, pos, after, gd⟩ (.int .u8 (c.toNat : Int)) := fun X D a w ha hw => by
  simp [execOp, ha.eval hx, ha.eval hy, Instr.index, asIntOf, run_underlying h.h, hi, ByteArray.getIdx hc]
theorem PV.sliceStr {t : TypeId} [h : StrT P t] {x y z : Operand} {s : ByteArray} {m n : Int} (hx : evE e x = some (.string s)) (hy : evE e y = some (.int .i64 m)) (hz : evE e z = some (.int .i64 n)) (h0 : 0 ≤ m ∧ m ≤ n ∧ n ≤ s.size) :
    PV P e l H ⟨dst, .slice t x (some y) (some z) none, ty, pos, after, gd⟩ (.string (s.extract m.toNat n.toNat)) := fun X D a w ha hw => by
  have e1 : 0 ≤ n ∧ n ≤ (s.size : Int) := by omega
  have e2 : 0 ≤ m ∧ m ≤ (n.toNat : Int) := by omega
  have e3 : max n 0 = n := by omega
  simp [execOp, ha.eval hx, ha.eval hy, ha.eval hz, run_sliceAt_string _ _ _ _ _ _ h.h, Instr.slice, run_underlying h.h, Instr.sliceBounds, Instr.sliceBound, asIntOf, e1, e2, e3, h0]
theorem PV.sliceStrL {t : TypeId} [h : StrT P t] {x y : Operand} {s : ByteArray} {m : Int} (hx : evE e x = some (.string s)) (hy : evE e y = some (.int .i64 m)) (h0 : 0 ≤ m ∧ m ≤ s.size) :
    PV P e l H ⟨dst, .slice t x (some y) none none, ty, pos, after, gd⟩ (.string (s.extract m.toNat s.size)) := fun X D a w ha hw => by
  simp [execOp, ha.eval hx, ha.eval hy, run_sliceAt_string _ _ _ _ _ _ h.h, Instr.slice, run_underlying h.h, Instr.sliceBounds, Instr.sliceBound, asIntOf, h0]
theorem PV.sliceStrH {t : TypeId} [h : StrT P t] {x y : Operand} {s : ByteArray} {m : Int} (hx : evE e x = some (.string s)) (hy : evE e y = some (.int .i64 m)) (h0 : 0 ≤ m ∧ m ≤ s.size) :
    PV P e l H ⟨dst, .slice t x none (some y) none, ty, pos, after, gd⟩ (.string (s.extract 0 m.toNat)) := fun X D a w ha hw => by
  simp [execOp, ha.eval hx, ha.eval hy, run_sliceAt_string _ _ _ _ _ _ h.h, Instr.slice, run_underlying h.h, Instr.sliceBounds, Instr.sliceBound, asIntOf, h0]

theorem cell_of {w : World} {b o : Nat} {cs : List Value} {t : TypeId} {fz : Nat × Nat} (h : w.heap[b]? = some (.cells cs.toArray t fz)) : w.cell? ⟨b, o, none⟩ = cs[o]? := by
  simp [World.cell?, h]
theorem PV.load1 {t t' : TypeId} [h : IsOne P t] {x : Operand} {b o : Nat} {cs : List Value} {fz : Nat × Nat} {v : Value} (hx : evE e x = some (.pointer (some ⟨b, o, none⟩))) (hb : SomeObj l H b (.cells cs.toArray t' fz)) (hc : cs[o]? = some v) :
    PV P e l H ⟨dst, .load t x, ty, pos, after, gd⟩ v := fun X D a w ha hw => by
  have h1 : w.cell? ⟨b, o, none⟩ = some v := (cell_of (hb.heap hw)).trans hc
  simp [execOp, ha.eval hx, Instr.loadAt, Instr.sureAddr, loadVar, h.h, run_load, h1]
theorem run_loadCells_of {w : World} {b o n : Nat} {cs vs : List Value} {t : TypeId} {fz : Nat × Nat} (h : w.heap[b]? = some (.cells cs.toArray t fz)) (hv : (cs.drop o).take n = vs) (hn : vs.length = n) : (loadCells ⟨b, o, none⟩ n).run P w = .ok vs.toArray w := by
  subst hn
  refine run_loadCells_list w ⟨b, o, none⟩ vs ?_
  intro j v hj
  have : (⟨b, o, none⟩ : Addr).add j = ⟨b, o + j, none⟩ := by unfold Addr.add; split <;> simp_all
  rw [this, cell_of h]
  have hl := (List.getElem?_eq_some_iff.1 hj).1
  rw [← hv, List.getElem?_take, if_pos hl, List.getElem?_drop] at hj
  exact hj
theorem PV.loadAgg {t t' : TypeId} {n : Nat} [h : IsAgg P t n] {x : Operand} {b o : Nat} {cs vs : List Value} {fz : Nat × Nat} (hx : evE e x = some (.pointer (some ⟨b, o, none⟩))) (hb : SomeObj l H b (.cells cs.toArray t' fz)) (hv : (cs.drop o).take n = vs) (hn : vs.length = n) :
    PV P e l H ⟨dst, .load t x, ty, pos, after, gd⟩ (.agg vs.toArray) := fun X D a w ha hw => by
  simp [execOp, ha.eval hx, Instr.loadAt, Instr.sureAddr, loadVar, h.h, h.s, run_loadCells_of (P := P) (hb.heap hw) hv hn]
/-- a whole struct variable -/
theorem PV.loadAll {t t' : TypeId} {n : Nat} [h : IsAgg P t n] {x : Operand} {b : Nat} {cs : List Value} {fz : Nat × Nat} (hx : evE e x = some (.pointer (some ⟨b, 0, none⟩))) (hb : SomeObj l H b (.cells cs.toArray t' fz)) (hn : Nat.beq cs.length n = true) :
    PV P e l H ⟨dst, .load t x, ty, pos, after, gd⟩ (.agg cs.toArray) :=
  PV.loadAgg hx hb (by rw [List.drop_zero]; exact List.take_of_length_le (Nat.le_of_eq (Nat.eq_of_beq_eq_true hn))) (Nat.eq_of_beq_eq_true hn)
theorem PV.indexAddr {t : TypeId} {el sz : Nat} [h : SlOf P t el sz] {x y : Operand} {b o : Nat} {n c : Nat} {k : IntKind} {i : Int} (hx : evE e x = some (.slice (some ⟨b, o, none⟩) n c)) (hy : evE e y = some (.int k i)) (hi : 0 ≤ i ∧ i < n) :
    PV P e l H ⟨dst, .indexAddr t x y, ty, pos, after, gd⟩ (.pointer (some ⟨b, o + i.toNat * sz, none⟩)) := fun X D a w ha hw => by
  have : (⟨b, o, none⟩ : Addr).add (i.toNat * sz) = ⟨b, o + i.toNat * sz, none⟩ := by unfold Addr.add; split <;> simp_all
  simp [execOp, ha.eval hx, ha.eval hy, Instr.indexAt, asIntOf, run_underlying h.h, h.s, hi, this]

/-- Some cells in the midst of others are other ones. -/
inductive Splice : List Value → Nat → List Value → List Value → Prop
  | nil {c} : Splice c 0 [] c
  | cons {x c v vs c'} : Splice c 0 vs c' → Splice (x :: c) 0 (v :: vs) (v :: c')
  | skip {x c n vs c'} : Splice c n vs c' → Splice (x :: c) (n + 1) vs (x :: c')
inductive CellsR : Value → List Value → Prop
  | agg {cs} : CellsR (.agg cs.toArray) cs
  | one {v} (h : v.oneCell' = true) : CellsR v [v]
inductive FillR (pl : List (Nat × Nat)) : List Value → List (Nat × Value) → List Value → Prop
  | nil {z} : FillR pl z [] z
  | cons {z i v rest off sz vs z' z''} (h1 : pl[i]? = some (off, sz)) (h2 : CellsR v vs) (h3 : Nat.beq vs.length sz = true) (h4 : Splice z off vs z') (h5 : FillR pl z' rest z'') : FillR pl z ((i, v) :: rest) z''

theorem Splice.spec {c : List Value} {n : Nat} {vs c' : List Value} (h : Splice c n vs c') : n + vs.length ≤ c.length ∧ c'.length = c.length ∧ c' = c.take n ++ vs ++ c.drop (n + vs.length) := by
  induction h with
  | nil => simp
  | cons _ ih => obtain ⟨h1, h2, h3⟩ := ih; refine ⟨by simp; omega, by simp [h2], by simp [h3]⟩
  | @skip x c n vs c' _ ih =>
    obtain ⟨h1, h2, h3⟩ := ih
    refine ⟨by simp; omega, by simp [h2], ?_⟩
    rw [show n + 1 + vs.length = (n + vs.length) + 1 by omega]
    simp [h3]
theorem CellsR.cells {v : Value} {vs : List Value} (h : CellsR v vs) : v.cells = vs.toArray := by
  cases h with
  | agg => rfl
  | one h => cases v <;> first | rfl | (simp [Value.oneCell'] at h)
theorem splice_fold (vs : List Value) : ∀ (c : List Value) (off j : Nat), off + j + vs.length ≤ c.length →
    ((vs.zipIdx j).foldl (fun cs (p : Value × Nat) => cs.setIfInBounds (off + p.2) p.1) c.toArray) = (c.take (off + j) ++ vs ++ c.drop (off + j + vs.length)).toArray := by
  induction vs with
  | nil => intro c off j _; simp
  | cons v vs ih =>
    intro c off j h
    simp only [List.length_cons] at h
    simp only [List.zipIdx_cons, List.foldl_cons]
    have : (c.toArray.setIfInBounds (off + j) v) = (c.set (off + j) v).toArray := by simp
    rw [this, ih (c.set (off + j) v) off (j + 1) (by simp; omega)]
    congr 1
    apply List.ext_getElem?
    intro i
    simp only [List.getElem?_append, List.getElem?_take, List.getElem?_drop, List.getElem?_set, List.length_append, List.length_take, List.length_set, List.length_cons]
    by_cases h1 : i < off + j
    · have a1 : i < off + (j + 1) := by omega
      have a2 : ¬ off + j = i := by omega
      have a3 : i < min (off + (j + 1)) c.length + vs.length := by omega
      have a4 : i < min (off + (j + 1)) c.length := by omega
      have a5 : i < min (off + j) c.length := by omega
      have a6 : i < min (off + j) c.length + (vs.length + 1) := by omega
      simp [h1, a1, a2, a3, a4, a5, a6]
    · by_cases h2 : i = off + j
      · subst h2
        have a3 : off + j < min (off + (j + 1)) c.length + vs.length := by omega
        have a4 : off + j < min (off + (j + 1)) c.length := by omega
        have a5 : ¬ off + j < min (off + j) c.length := by omega
        have a6 : off + j < min (off + j) c.length + (vs.length + 1) := by omega
        have a7 : off + j < off + (j + 1) := by omega
        have a8 : off + j < c.length := by omega
        have a9 : off + j - min (off + j) c.length = 0 := by omega
        simp [a3, a4, a5, a6, a7, a8, a9]
      · by_cases h3 : i < off + j + 1 + vs.length
        · have a3 : i < min (off + (j + 1)) c.length + vs.length := by omega
          have a4 : ¬ i < min (off + (j + 1)) c.length := by omega
          have a5 : ¬ i < min (off + j) c.length := by omega
          have a6 : i < min (off + j) c.length + (vs.length + 1) := by omega
          obtain ⟨q, hq⟩ : ∃ q, i - min (off + j) c.length = q + 1 := ⟨i - min (off + j) c.length - 1, by omega⟩
          have a9 : i - min (off + (j + 1)) c.length = q := by omega
          simp [a3, a4, a5, a6, hq, a9]
        · have a3 : ¬ i < min (off + (j + 1)) c.length + vs.length := by omega
          have a6 : ¬ i < min (off + j) c.length + (vs.length + 1) := by omega
          have a7 : ¬ off + j = off + (j + 1) + vs.length + (i - (min (off + (j + 1)) c.length + vs.length)) := by omega
          have a8 : off + (j + 1) + vs.length + (i - (min (off + (j + 1)) c.length + vs.length)) = off + j + (vs.length + 1) + (i - (min (off + j) c.length + (vs.length + 1))) := by omega
          simp only [a3, a6, if_false, a7]
          rw [a8]
theorem FillR.fill {pl : List (Nat × Nat)} {z : List Value} {parts : List (Nat × Value)} {z' : List Value} (h : FillR pl z parts z') : Instr.fill (pl[·]?) z.toArray parts = some z'.toArray := by
  induction h with
  | nil => rfl
  | @cons z i v rest off sz vs z1 z2 h1 h2 h3 h4 _ ih =>
    obtain ⟨s1, s2, s3⟩ := h4.spec
    have hs := Nat.eq_of_beq_eq_true h3
    have hsz : v.cells.size = vs.length := by rw [h2.cells]; simp
    simp only [Instr.fill, h1]
    rw [if_neg (by simp [hsz, hs]; omega)]
    have : v.cells.zipIdx.foldl (fun cs (p : Value × Nat) => cs.setIfInBounds (off + p.2) p.1) z.toArray = z1.toArray := by
      rw [h2.cells]
      have := splice_fold vs z off 0 (by omega)
      simp only [Nat.add_zero] at this
      rw [s3, ← this]
      simp [← Array.foldl_toList]
    rw [← ih, ← this]
def evParts (e : Env) : List (Nat × Operand) → Option (List (Nat × Value))
  | [] => some []
  | (i, x) :: ps => (evE e x).bind fun v => (evParts e ps).bind fun vs => some ((i, v) :: vs)
theorem evParts_map {X : Cx} {D : List Deferred} {a : Act} (ha : Ea X e D a) : ∀ (ps : List (Nat × Operand)) (vs : List (Nat × Value)), evParts e ps = some vs → ps.map (fun p => (p.1, a.eval p.2)) = vs
  | [], vs, h => by simp [evParts] at h; simp [h]
  | (i, x) :: ps, vs, h => by
    simp only [evParts] at h
    cases h1 : evE e x with
    | none => rw [h1] at h; cases h
    | some v =>
      rw [h1] at h
      cases h2 : evParts e ps with
      | none => rw [h2] at h; cases h
      | some us => rw [h2] at h; simp at h; subst h; simp [ha.eval h1]; have := evParts_map ha ps us h2; simpa using this
theorem PV.build {t : TypeId} {pl : List (Nat × Nat)} {z : List Value} [h : PlacesOf P t pl z] {ps : List (Nat × Operand)} {vs : List (Nat × Value)} {cs : List Value} (hp : evParts e ps = some vs) (hf : FillR pl z vs cs) :
    PV P e l H ⟨dst, .build t ps.toArray, ty, pos, after, gd⟩ (.agg cs.toArray) := fun X D a w ha hw => by
  have h1 : (ps.toArray.map fun (p : Nat × Operand) => (p.1, a.eval p.2)) = vs.toArray := by rw [← evParts_map ha ps vs hp]; simp
  have h2 := h.h vs.toArray w
  simp only [hf.fill] at h2
  simp only [execOp, Sem.run_bind, Sem.run_pure]
  rw [h1, h2]; rfl
end



section
variable {P : Program} {X : Cx} {e : Env} {l : List (Nat × Obj)} {H : Hp} {D : List Deferred} {k : List It}
variable {ty : TypeId} {pos : String} {after : Array Edge} {gd : Option (Nat × Bool)} {all : Array Oper} {rest : List Oper}

/-- An operation that leaves a value and a world. -/
theorem T.step {o : Oper} {d : Nat} (hw : Wanted e all o) (hd : o.dst = some d) (hN : Nat.blt d X.N = true)
    (h : ∀ a w, Ea X e D a → Wd X l H w → ∃ v l' H' w', (execOp a.eval o).run P w = .ok (.value v) w' ∧ Wd X l' H' w' ∧ T P X ((d, v) :: e) l' H' D (.ops all rest :: k)) :
    T P X e l H D (.ops all (o :: rest) :: k) := fun a w ha hw' => by
  refine wpList_cons (hw X D a ha) ?_
  obtain ⟨v, l', H', w', h1, h2, h3⟩ := h a w ha hw'
  rw [run_semAt h1 (fun _ => by simp), Oper.uponIn_value, hd]
  exact h3 _ w' (ha.put (by simpa using hN) v) h2
theorem T.step0 {o : Oper} (hw : Wanted e all o) (hd : o.dst = none)
    (h : ∀ a w, Ea X e D a → Wd X l H w → ∃ l' H' w', (execOp a.eval o).run P w = .ok .skip w' ∧ Wd X l' H' w' ∧ T P X e l' H' D (.ops all rest :: k)) :
    T P X e l H D (.ops all (o :: rest) :: k) := fun a w ha hw' => by
  refine wpList_cons (hw X D a ha) ?_
  obtain ⟨l', H', w', h1, h2, h3⟩ := h a w ha hw'
  rw [run_semAt h1 (fun _ => by simp), Oper.uponIn_skip, hd]
  exact h3 _ w' ha h2

theorem T.alloc {t : TypeId} {z : List Value} [hz : ZeroOf P t z] {d : Nat} (hw : Wanted e all ⟨some d, .alloc t, ty, pos, after, gd⟩) (hN : Nat.blt d X.N = true)
    (h : ∀ b, T P X ((d, .pointer (some ⟨b, 0, none⟩)) :: e) ((b, .cells z.toArray t (0, 0)) :: l) H D (.ops all rest :: k)) :
    T P X e l H D (.ops all (⟨some d, .alloc t, ty, pos, after, gd⟩ :: rest) :: k) :=
  T.step hw rfl hN fun a w ha hw' => by
    obtain ⟨v, h1, h2⟩ := hz.h
    refine ⟨_, _, _, w.alloc (.cells z.toArray t (0, 0)), ?_, hw'.alloc _, h w.heap.size⟩
    simp [execOp, Instr.alloc, h1, newVar, newRow, h2]
theorem T.box {t : TypeId} {x : Operand} {v : Value} {cs : List Value} {d : Nat} (hw : Wanted e all ⟨some d, .box t x, ty, pos, after, gd⟩) (hN : Nat.blt d X.N = true) (hx : evE e x = some v) (hc : CellsR v cs)
    (h : ∀ b, T P X ((d, .pointer (some ⟨b, 0, none⟩)) :: e) ((b, .cells cs.toArray t (0, 0)) :: l) H D (.ops all rest :: k)) :
    T P X e l H D (.ops all (⟨some d, .box t x, ty, pos, after, gd⟩ :: rest) :: k) :=
  T.step hw rfl hN fun a w ha hw' => by
    refine ⟨_, _, _, w.alloc (.cells cs.toArray t (0, 0)), ?_, hw'.alloc _, h w.heap.size⟩
    simp [execOp, Instr.box, ha.eval hx, newVar, newRow, hc.cells]

theorem putObj_eq_setCell {w : World} {b o : Nat} {c : Array Value} {t : TypeId} {fz : Nat × Nat} (v : Value) (h : w.heap[b]? = some (.cells c t fz)) : w.setCell ⟨b, o, none⟩ v = w.putObj b (.cells (c.setIfInBounds o v) t fz) := by
  have hlt := (Array.getElem?_eq_some_iff.1 h).1
  have hh : w.heap.modify b (fun | .cells c elem frozen => .cells (c.setIfInBounds o v) elem frozen | o => o) = w.heap.setIfInBounds b (.cells (c.setIfInBounds o v) t fz) := by
    apply Array.ext_getElem?
    intro i
    rw [Array.getElem?_modify, Array.getElem?_setIfInBounds]
    by_cases e1 : b = i
    · subst e1
      rw [Array.getElem?_eq_getElem hlt] at h
      simp [hlt, Option.some.inj h]
    · simp [e1]
  unfold World.setCell World.putObj
  rw [← hh]
  rfl

theorem run_storeCells_at {w : World} {b : Nat} {t : TypeId} : ∀ (vs : List Value) (cs : List Value) (o i : Nat) (w : World), w.heap[b]? = some (.cells cs.toArray t (0, 0)) → o + i + vs.length ≤ cs.length → (∀ v ∈ vs, v.oneCell' = true) →
    (storeCells ⟨b, o, none⟩ vs i).run P w = .ok () (w.putObj b (.cells (cs.take (o + i) ++ vs ++ cs.drop (o + i + vs.length)).toArray t (0, 0)))
  | [], cs, o, i, w, h, _, _ => by
    have : w.putObj b (.cells (cs.take (o + i) ++ [] ++ cs.drop (o + i + ([] : List Value).length)).toArray t (0, 0)) = w := by
      simp only [List.append_nil, List.length_nil, Nat.add_zero, List.take_append_drop]
      unfold World.putObj
      have hlt := (Array.getElem?_eq_some_iff.1 h).1
      have : w.heap.setIfInBounds b (.cells cs.toArray t (0, 0)) = w.heap := by
        apply Array.ext_getElem?
        intro j
        rw [Array.getElem?_setIfInBounds]
        split
        · rename_i e1; subst e1; rw [Array.getElem?_eq_getElem hlt] at h; simp [hlt, Option.some.inj h]
        · rfl
      rw [this]
    rw [this]; rfl
  | v :: vs, cs, o, i, w, h, hl, h1 => by
    simp only [List.length_cons] at hl
    have had : (⟨b, o, none⟩ : Addr).add i = ⟨b, o + i, none⟩ := by unfold Addr.add; split <;> simp_all
    have hc : w.cell? ⟨b, o + i, none⟩ = some cs[o + i] := by rw [cell_of h]; simp
    have hf : w.frozen? ⟨b, o + i, none⟩ = false := by simp [World.frozen?, h]
    have h1v := h1 v List.mem_cons_self
    have hst := run_store P w ⟨b, o + i, none⟩ v .plain h1v
    rw [hc] at hst
    simp only [hf, Bool.false_eq_true, if_false] at hst
    have hset : (cs.toArray.setIfInBounds (o + i) v) = (cs.set (o + i) v).toArray := by simp
    rw [putObj_eq_setCell v h, hset] at hst
    have hlt := (Array.getElem?_eq_some_iff.1 h).1
    have hrec := run_storeCells_at (w := w) (b := b) (t := t) vs (cs.set (o + i) v) o (i + 1) (w.putObj b (.cells (cs.set (o + i) v).toArray t (0, 0))) (World.putObj_heap_same hlt) (by simp; omega) (fun u hu => h1 u (List.mem_cons_of_mem _ hu))
    unfold storeCells
    simp only [Sem.run_bind, had, hst, Result.andThen_ok]
    rw [hrec]
    have hpp : ∀ (o1 o2 : Obj), (w.putObj b o1).putObj b o2 = w.putObj b o2 := by intro o1 o2; simp [World.putObj]
    rw [hpp]
    congr 4
    apply List.ext_getElem?
    intro j
    simp only [List.getElem?_append, List.getElem?_take, List.getElem?_drop, List.getElem?_set, List.length_append, List.length_take, List.length_set, List.length_cons]
    by_cases g1 : j < o + i
    · have a1 : j < min (o + (i + 1)) cs.length + vs.length := by omega
      have a2 : j < min (o + (i + 1)) cs.length := by omega
      have a3 : j < o + (i + 1) := by omega
      have a4 : ¬ o + i = j := by omega
      have a5 : j < min (o + i) cs.length + (vs.length + 1) := by omega
      have a6 : j < min (o + i) cs.length := by omega
      simp [a1, a2, a3, a4, a5, a6, g1]
    · by_cases g2 : j = o + i
      · subst g2
        have a1 : o + i < min (o + (i + 1)) cs.length + vs.length := by omega
        have a2 : o + i < min (o + (i + 1)) cs.length := by omega
        have a3 : o + i < o + (i + 1) := by omega
        have a5 : o + i < min (o + i) cs.length + (vs.length + 1) := by omega
        have a6 : ¬ o + i < min (o + i) cs.length := by omega
        have a7 : o + i - min (o + i) cs.length = 0 := by omega
        have a8 : o + i < cs.length := by omega
        simp [a1, a2, a3, a5, a6, a7, a8]
      · by_cases g3 : j < o + i + 1 + vs.length
        · have a1 : j < min (o + (i + 1)) cs.length + vs.length := by omega
          have a2 : ¬ j < min (o + (i + 1)) cs.length := by omega
          have a5 : j < min (o + i) cs.length + (vs.length + 1) := by omega
          have a6 : ¬ j < min (o + i) cs.length := by omega
          obtain ⟨q, hq⟩ : ∃ q, j - min (o + i) cs.length = q + 1 := ⟨j - min (o + i) cs.length - 1, by omega⟩
          have a7 : j - min (o + (i + 1)) cs.length = q := by omega
          simp [a1, a2, a5, a6, hq, a7]
        · have a1 : ¬ j < min (o + (i + 1)) cs.length + vs.length := by omega
          have a5 : ¬ j < min (o + i) cs.length + (vs.length + 1) := by omega
          have a7 : ¬ o + i = o + (i + 1) + vs.length + (j - (min (o + (i + 1)) cs.length + vs.length)) := by omega
          have a8 : o + (i + 1) + vs.length + (j - (min (o + (i + 1)) cs.length + vs.length)) = o + i + (vs.length + 1) + (j - (min (o + i) cs.length + (vs.length + 1))) := by omega
          simp only [a1, a5, if_false, a7]
          rw [a8]

def AllOne : List Value → Prop
  | [] => True
  | v :: vs => v.oneCell' = true ∧ AllOne vs
theorem AllOne.spec : ∀ {vs : List Value}, AllOne vs → ∀ v ∈ vs, v.oneCell' = true
  | v :: vs, ⟨h1, h2⟩, u, hu => by
    rcases List.mem_cons.1 hu with rfl | hu
    · exact h1
    · exact h2.spec u hu

theorem T.store {t t' : TypeId} {n : Nat} (hs : ∀ w, (sizeOf t).run P w = .ok n w) {x y : Operand} {v : Value} {vs cs cs' : List Value} {b o : Nat} {l' : List (Nat × Obj)} (hw : Wanted e all ⟨none, .store t x y, ty, pos, after, gd⟩)
    (hx : evE e x = some (.pointer (some ⟨b, o, none⟩))) (hy : evE e y = some v) (hc : CellsR v vs) (h1 : AllOne vs) (hn : Nat.beq vs.length n = true) (hu : Upd l b (.cells cs.toArray t' (0, 0)) (.cells cs'.toArray t' (0, 0)) l') (hsp : Splice cs o vs cs')
    (h : T P X e l' H D (.ops all rest :: k)) : T P X e l H D (.ops all (⟨none, .store t x y, ty, pos, after, gd⟩ :: rest) :: k) :=
  T.step0 hw rfl fun a w ha hw' => by
    have hb := (hw'.own _ hu.mem).1
    obtain ⟨s1, s2, s3⟩ := hsp.spec
    refine ⟨l', H, w.putObj b (.cells cs'.toArray t' (0, 0)), ?_, hw'.upd hu, h⟩
    have := run_storeCells_at (P := P) (w := w) vs cs o 0 w hb (by omega) h1.spec
    simp only [Nat.add_zero, ← s3] at this
    have hvs : v.cells.toList = vs := by rw [hc.cells]
    have hsz : v.cells.size = n := by rw [hc.cells]; simpa using Nat.eq_of_beq_eq_true hn
    simp [execOp, Instr.storeAt, ha.eval hx, ha.eval hy, Instr.sureAddr, storeVar, hs, hsz, hvs, this]
theorem T.store1 {t t' : TypeId} [ht : IsOne P t] {x y : Operand} {v : Value} {cs cs' : List Value} {b o : Nat} {l' : List (Nat × Obj)} (hw : Wanted e all ⟨none, .store t x y, ty, pos, after, gd⟩)
    (hx : evE e x = some (.pointer (some ⟨b, o, none⟩))) (hy : evE e y = some v) (h1 : v.oneCell' = true) (hu : Upd l b (.cells cs.toArray t' (0, 0)) (.cells cs'.toArray t' (0, 0)) l') (hsp : Splice cs o [v] cs')
    (h : T P X e l' H D (.ops all rest :: k)) : T P X e l H D (.ops all (⟨none, .store t x y, ty, pos, after, gd⟩ :: rest) :: k) :=
  T.store ht.s hw hx hy (.one h1) ⟨h1, trivial⟩ rfl hu hsp h
theorem T.storeA {t t' : TypeId} {n : Nat} [ht : IsAgg P t n] {x y : Operand} {vs cs cs' : List Value} {b o : Nat} {l' : List (Nat × Obj)} (hw : Wanted e all ⟨none, .store t x y, ty, pos, after, gd⟩)
    (hx : evE e x = some (.pointer (some ⟨b, o, none⟩))) (hy : evE e y = some (.agg vs.toArray)) (h1 : AllOne vs) (hn : Nat.beq vs.length n = true) (hu : Upd l b (.cells cs.toArray t' (0, 0)) (.cells cs'.toArray t' (0, 0)) l') (hsp : Splice cs o vs cs')
    (h : T P X e l' H D (.ops all rest :: k)) : T P X e l H D (.ops all (⟨none, .store t x y, ty, pos, after, gd⟩ :: rest) :: k) :=
  T.store ht.s hw hx hy .agg h1 hn hu hsp h

/-! ### range over a string -/
theorem T.rangeStr {t : TypeId} [ht : StrT P t] {x : Operand} {s : ByteArray} {d : Nat} (hw : Wanted e all ⟨some d, .range t x, ty, pos, after, gd⟩) (hN : Nat.blt d X.N = true) (hx : evE e x = some (.string s))
    (h : ∀ b, T P X ((d, .pointer (some ⟨b, 0, none⟩)) :: e) ((b, .stringIter s 0) :: l) H D (.ops all rest :: k)) :
    T P X e l H D (.ops all (⟨some d, .range t x, ty, pos, after, gd⟩ :: rest) :: k) :=
  T.step hw rfl hN fun a w ha hw' => by
    refine ⟨_, _, _, w.alloc (.stringIter s 0), ?_, hw'.alloc _, h w.heap.size⟩
    simp [execOp, Instr.range, ha.eval hx, run_underlying ht.h]
theorem T.nextStr {x : Operand} {s : ByteArray} {p r width : Nat} {b d : Nat} {l' : List (Nat × Obj)} (hw : Wanted e all ⟨some d, .next x true, ty, pos, after, gd⟩) (hN : Nat.blt d X.N = true) (hx : evE e x = some (.pointer (some ⟨b, 0, none⟩)))
    (hp : p < s.size) (hd : Utf8.decode s p = (r, width)) (hu : Upd l b (.stringIter s p) (.stringIter s (p + width)) l')
    (h : T P X ((d, .tuple #[.bool true, .int .i64 (p : Int), .int .i32 (r : Int)]) :: e) l' H D (.ops all rest :: k)) :
    T P X e l H D (.ops all (⟨some d, .next x true, ty, pos, after, gd⟩ :: rest) :: k) :=
  T.step hw rfl hN fun a w ha hw' => by
    have hb := (hw'.own _ hu.mem).1
    refine ⟨_, _, _, w.putObj b (.stringIter s (p + width)), ?_, hw'.upd hu, h⟩
    simp [execOp, Instr.next, ha.eval hx, getObj, setObj, Sem.run, hb, hp, hd, goInt, World.putObj]
theorem T.nextStrEnd {x : Operand} {s : ByteArray} {p : Nat} {b d : Nat} (hw : Wanted e all ⟨some d, .next x true, ty, pos, after, gd⟩) (hN : Nat.blt d X.N = true) (hx : evE e x = some (.pointer (some ⟨b, 0, none⟩)))
    (hu : (b, Obj.stringIter s p) ∈ l) (hp : s.size ≤ p)
    (h : T P X ((d, .tuple #[.bool false]) :: e) l H D (.ops all rest :: k)) :
    T P X e l H D (.ops all (⟨some d, .next x true, ty, pos, after, gd⟩ :: rest) :: k) :=
  T.step hw rfl hN fun a w ha hw' => by
    have hb := (hw'.own _ hu).1
    refine ⟨_, _, _, w, ?_, hw', h⟩
    have : ¬ p < s.size := by omega
    simp [execOp, Instr.next, ha.eval hx, getObj, Sem.run, hb, this]

/-! ### calls -/
/-- What a call of a function that writes nothing that lay comes to. -/
def FnR (w : World) (H : Hp) (R : Value → Hp → Prop) : Ending → World → Prop := fun en w' =>
  ∃ v H', en = .returned v ∧ (∀ b, b < w.heap.size → H' b = H b) ∧ Hin H' w' ∧ Keep All w w' ∧ R v H'
def Fn (P : Program) (f : FuncId) (args : Array Value) (H : Hp) (R : Value → Hp → Prop) : Prop :=
  ∀ w, Hin H w → CallsIn Fence.wide 0 P f args w (FnR w H R)
theorem Fn.mono {f : FuncId} {args : Array Value} {R R' : Value → Hp → Prop} (h : Fn P f args H R) (hr : ∀ v H', R v H' → R' v H') : Fn P f args H R' :=
  fun w hw => (h w hw).mono fun en w' ⟨v, H', h1, h2, h3, h4, h5⟩ => ⟨v, H', h1, h2, h3, h4, hr v H' h5⟩
class Ent (P : Program) (f : FuncId) : Prop where
  h : ∀ args w, (callFunc f args).run P w = .ok (.enter f args) w

theorem T.enter {o : Oper} {d : Nat} {f : FuncId} {args : Array Value} {R : Value → Hp → Prop} (hw : Wanted e all o) (hd : o.dst = some d) (hN : Nat.blt d X.N = true)
    (hrun : ∀ a w, Ea X e D a → (execOp a.eval o).run P w = .ok (.enter f args) w) (hf : Fn P f args H R)
    (h : ∀ v H', H.le H' → R v H' → T P X ((d, v) :: e) l H' D (.ops all rest :: k)) : T P X e l H D (.ops all (o :: rest) :: k) := fun a w ha hw' => by
  refine wpList_cons (hw X D a ha) ?_
  rw [run_semAt (hrun a w ha) (fun _ => by simp), Oper.uponIn_enter]
  refine ⟨fun hd => by simp [Fw, Fence.wide] at hd, ?_⟩
  have hc : CallsIn (Fw X.ro) 0 P f args w (FnR w H R) := hf w hw'.fro
  refine hc.mono ?_
  rintro en w' ⟨v, H', rfl, h2, h3, h4, h5⟩
  rw [hd]
  have hle : H.le H' := fun b o hb => by rw [h2 b (hw'.ltH hb)]; exact hb
  exact h v H' hle h5 _ w' (ha.put (by simpa using hN) v) (hw'.call h4 h3 h2)

def evL (e : Env) : List Operand → Option (List Value)
  | [] => some []
  | x :: xs => (evE e x).bind fun v => (evL e xs).bind fun vs => some (v :: vs)
theorem evL_map {a : Act} (ha : Ea X e D a) : ∀ (xs : List Operand) (vs : List Value), evL e xs = some vs → xs.map a.eval = vs
  | [], vs, h => by simp [evL] at h; simp [h]
  | x :: xs, vs, h => by
    simp only [evL] at h
    cases h1 : evE e x with
    | none => rw [h1] at h; cases h
    | some v =>
      rw [h1] at h
      cases h2 : evL e xs with
      | none => rw [h2] at h; cases h
      | some us => rw [h2] at h; simp at h; subst h; simp [ha.eval h1, evL_map ha xs us h2]

/-- A call of a named function. -/
theorem T.call {d : Nat} {f : FuncId} [hE : Ent P f] {xs : List Operand} {ts : Array TypeId} {vs : List Value} {R : Value → Hp → Prop} (hw : Wanted e all ⟨some d, .call ⟨.value (.func f), xs.toArray, ts⟩, ty, pos, after, gd⟩) (hN : Nat.blt d X.N = true)
    (hv : evL e xs = some vs) (hf : Fn P f vs.toArray H R)
    (h : ∀ v H', H.le H' → R v H' → T P X ((d, v) :: e) l H' D (.ops all rest :: k)) :
    T P X e l H D (.ops all (⟨some d, .call ⟨.value (.func f), xs.toArray, ts⟩, ty, pos, after, gd⟩ :: rest) :: k) :=
  T.enter (d := d) hw rfl hN (fun a w ha => by
    have := evL_map ha xs vs hv
    have hE' := hE.h (xs.map a.eval).toArray w
    rw [this] at hE'
    simp [execOp, resolve, Act.eval, Deferred.ofValue, invoke, List.map_toArray, this, hE']) hf h
theorem T.callV {d : Nat} {f : FuncId} [hE : Ent P f] {xs : List Operand} {ts : Array TypeId} {vs : List Value} {v : Value} (hw : Wanted e all ⟨some d, .call ⟨.value (.func f), xs.toArray, ts⟩, ty, pos, after, gd⟩) (hN : Nat.blt d X.N = true)
    (hv : evL e xs = some vs) (hf : Fn P f vs.toArray H (fun u _ => u = v))
    (h : T P X ((d, v) :: e) l H D (.ops all rest :: k)) :
    T P X e l H D (.ops all (⟨some d, .call ⟨.value (.func f), xs.toArray, ts⟩, ty, pos, after, gd⟩ :: rest) :: k) := fun a w ha hw' => by
  refine wpList_cons (hw X D a ha) ?_
  have hrun : (execOp a.eval ⟨some d, .call ⟨.value (.func f), xs.toArray, ts⟩, ty, pos, after, gd⟩).run P w = .ok (.enter f vs.toArray) w := by
    have := evL_map ha xs vs hv
    have hE' := hE.h (xs.map a.eval).toArray w
    rw [this] at hE'
    simp [execOp, resolve, Act.eval, Deferred.ofValue, invoke, List.map_toArray, this, hE']
  rw [run_semAt hrun (fun _ => by simp), Oper.uponIn_enter]
  refine ⟨fun hd => by simp [Fw, Fence.wide] at hd, ?_⟩
  have hc : CallsIn (Fw X.ro) 0 P f vs.toArray w (FnR w H (fun u _ => u = v)) := hf w hw'.fro
  refine hc.mono ?_
  rintro en w' ⟨u, H', rfl, h2, h3, h4, rfl⟩
  exact h _ w' (ha.put (by simpa using hN) u) (hw'.callV h4)
/-- A call of a function value. -/
theorem T.callF {d : Nat} {f : FuncId} [hE : Ent P f] {x : Operand} {xs : List Operand} {ts : Array TypeId} {vs cap : List Value} {R : Value → Hp → Prop} (hw : Wanted e all ⟨some d, .call ⟨.value x, xs.toArray, ts⟩, ty, pos, after, gd⟩) (hN : Nat.blt d X.N = true)
    (hx : evE e x = some (.func (.func f) #[] cap.toArray)) (hv : evL e xs = some vs) (hf : Fn P f (vs ++ cap).toArray H R)
    (h : ∀ v H', H.le H' → R v H' → T P X ((d, v) :: e) l H' D (.ops all rest :: k)) :
    T P X e l H D (.ops all (⟨some d, .call ⟨.value x, xs.toArray, ts⟩, ty, pos, after, gd⟩ :: rest) :: k) :=
  T.enter (d := d) hw rfl hN (fun a w ha => by
    have := evL_map ha xs vs hv
    have hE' := hE.h (vs ++ cap).toArray w
    simp [execOp, resolve, ha.eval hx, Deferred.ofValue, invoke, List.map_toArray, this]
    simpa using hE') hf h

/-! ### a function's beginning and end -/
def fnX (P : Program) (fn : Func) (w : World) (H : Hp) (R : Value → Hp → Prop) : Cx :=
  { ro := none, N := fn.ntmps, w1 := w, H0 := H, Pt := All, Q := bodyPostM Fence.wide 0 P fn (FnR w H R) }
def argE : Nat → List Value → Env
  | _, [] => []
  | i, v :: vs => (i, v) :: argE (i + 1) vs
theorem argE_get : ∀ (vs : List Value) (j i : Nat) (v : Value), (argE j vs).get i = some v → j ≤ i ∧ vs[i - j]? = some v
  | [], _, _, _, h => by cases h
  | u :: vs, j, i, v, h => by
    simp only [argE, Env.get] at h
    by_cases e1 : i = j
    · subst e1
      rw [Nat.beq_refl] at h
      simp at h
      simp [h]
    · have : Nat.beq i j = false := by rw [Bool.eq_false_iff]; intro hh; exact e1 (Nat.eq_of_beq_eq_true hh)
      rw [this] at h
      obtain ⟨h1, h2⟩ := argE_get vs (j + 1) i v h
      refine ⟨by omega, ?_⟩
      rw [show i - j = (i - (j + 1)) + 1 by omega]
      simpa using h2
theorem Fn.of_T {f : FuncId} {fn : Func} {c : Code} {vs : List Value} {R : Value → Hp → Prop} (hf : P.funcs[f]? = some fn) (hb : fn.body = some c) (hs : Nat.ble vs.length fn.ntmps = true)
    (h : ∀ w, T P (fnX P fn w H R) (argE 0 vs) [] H [] [.code c]) : Fn P f vs.toArray H R := fun w hw => by
  refine callsIn_of_wp_marks hf hb trivial ?_
  have hle : vs.length ≤ fn.ntmps := Nat.le_of_ble_eq_true hs
  have := h w { tmps := vs.toArray ++ Array.replicate (fn.ntmps - vs.toArray.size) undef, defers := [] } w ⟨by simp [fnX]; omega, fun i v hi => ?_, rfl⟩ ⟨by simp, by simp, hw, Keep.refl _ _, Hp.le.refl _, fun _ _ _ => rfl⟩
  · exact this
  · obtain ⟨_, h2⟩ := argE_get vs 0 i v hi
    rw [Nat.sub_zero] at h2
    have hlt := (List.getElem?_eq_some_iff.1 h2).1
    rw [Array.getElem?_append_left (by simpa using hlt)]
    simpa using h2

def Lv (P : Program) (X : Cx) (fn : Func) (R : Ending → World → Prop) (e : Env) (l : List (Nat × Obj)) (H : Hp) (D : List Deferred) : Prop :=
  ∀ D0 a w, Ea X e D0 a → Wd X l H w → LeavesInM Fence.wide 0 P fn a.tmps R D .returning w
def RV (P : Program) (fn : Func) (e : Env) (l : List (Nat × Obj)) (H : Hp) (v : Value) : Prop :=
  ∀ X D a w, Ea X e D a → Wd X l H w → (results fn a.tmps).run P w = .ok v w

theorem T.retF {fn : Func} {w0 : World} {H0 : Hp} {R : Value → Hp → Prop} (h : Lv P (fnX P fn w0 H0 R) fn (FnR w0 H0 R) e l H D) : T P (fnX P fn w0 H0 R) e l H D (.code .ret :: k) :=
  T.ret fun a w ha hw => by
    show LeavesInM _ _ _ _ _ _ a.defers _ _
    rw [ha.dfr]; exact h D a w ha hw
theorem Lv.fin {fn : Func} {w0 : World} {H0 : Hp} {R : Value → Hp → Prop} {v : Value} (hr : RV P fn e l H v) (hR : R v H) : Lv P (fnX P fn w0 H0 R) fn (FnR w0 H0 R) e l H [] :=
  fun D0 a w ha hw => ⟨v, hr _ _ a w ha hw, v, H, rfl, fun b hb => hw.ext b hb trivial, hw.fro, hw.keep, hR⟩
theorem Lv.mark {fn : Func} {R : Ending → World → Prop} {r : Nat} {l' : List (Nat × Obj)} (hu : Upd l r (.deferred (some [])) (.deferred none) l') (h : Lv P X fn R e l' H D) : Lv P X fn R e l H ({ target := .collected r, args := #[] } :: D) :=
  fun D0 a w ha hw => ⟨by simp, .inl ⟨r, _, rfl, run_takeDeferred (hw.own _ hu.mem).1, h D0 a _ ha (hw.upd hu)⟩⟩
theorem Lv.freeze {fn : Func} {R : Ending → World → Prop} {b : Nat} {o : Obj} (h : Lv P X fn R e l (H.put b o) D) : Lv P X fn R e ((b, o) :: l) H D := fun D0 a w ha hw => h D0 a w ha hw.freeze

theorem RV.tmp {fn : Func} {t : Tmp} {v : Value} (h : fn.results = #[.tmp t]) (hv : e.get t = some v) : RV P fn e l H v := fun X D a w ha hw => by
  rw [results_tmp h]; rw [ha.getD hv]
theorem RV.none {fn : Func} (h : fn.results = #[]) : RV P fn e l H (.tuple #[]) := fun X D a w ha hw => results_none h _ _ _
theorem RV.tmp2 {fn : Func} {t u : Tmp} {v1 v2 : Value} (h : fn.results = #[.tmp t, .tmp u]) (hv : e.get t = some v1) (hv2 : e.get u = some v2) : RV P fn e l H (.tuple #[v1, v2]) := fun X D a w ha hw => by
  rw [results_tmp2 h, ha.getD hv, ha.getD hv2]
theorem RV.tmp3 {fn : Func} {t u r : Tmp} {v1 v2 v3 : Value} (h : fn.results = #[.tmp t, .tmp u, .tmp r]) (hv : e.get t = some v1) (hv2 : e.get u = some v2) (hv3 : e.get r = some v3) : RV P fn e l H (.tuple #[v1, v2, v3]) := fun X D a w ha hw => by
  simp [results, h]
  simp [ha.get _ _ hv, ha.get _ _ hv2, ha.get _ _ hv3]
/-- what a result variable in memory holds -/
def CV (P : Program) (e : Env) (l : List (Nat × Obj)) (H : Hp) (p : Tmp) (t : TypeId) (v : Value) : Prop :=
  ∃ ad, e.get p = some (.pointer (some ad)) ∧ ∀ X w, Wd X l H w → (loadVar t ad).run P w = .ok v w
theorem CV.one {p : Tmp} {t t' : TypeId} [ht : IsOne P t] {b o : Nat} {cs : List Value} {fz : Nat × Nat} {v : Value} (hp : e.get p = some (.pointer (some ⟨b, o, none⟩))) (hb : SomeObj l H b (.cells cs.toArray t' fz)) (hc : cs[o]? = some v) : CV P e l H p t v := ⟨_, hp, fun X w hw => by
  have h1 : w.cell? ⟨b, o, none⟩ = some v := (cell_of (hb.heap hw)).trans hc
  simp [loadVar, ht.h, h1]⟩
theorem CV.agg {p : Tmp} {t t' : TypeId} {n : Nat} [ht : IsAgg P t n] {b : Nat} {cs : List Value} {fz : Nat × Nat} (hp : e.get p = some (.pointer (some ⟨b, 0, none⟩))) (hb : SomeObj l H b (.cells cs.toArray t' fz)) (hn : Nat.beq cs.length n = true) : CV P e l H p t (.agg cs.toArray) := ⟨_, hp, fun X w hw => by
  have hl := Nat.eq_of_beq_eq_true hn
  have := run_loadCells_of (P := P) (hb.heap hw) (o := 0) (n := n) (vs := cs) (by rw [List.drop_zero]; exact List.take_of_length_le (Nat.le_of_eq hl)) hl
  simp [loadVar, ht.h, ht.s, this]⟩
theorem RV.cell {fn : Func} {p : Tmp} {t : TypeId} {v : Value} (h : fn.results = #[.cell p t]) (hv : CV P e l H p t v) : RV P fn e l H v := fun X D a w ha hw => by
  obtain ⟨a1, g1, h1⟩ := hv
  have h1 := h1 X w hw
  simp [results, h, ha.get _ _ g1, asAddr, h1]
end

theorem placesOf_mk {P : Program} {t : TypeId} {pl : List (Nat × Nat)} {z : List Value} (fs : Array Field) (zv : Value) (h1 : ∀ w, (zeroValue t).run P w = .ok zv w) (hz : zv.cells = z.toArray) (h2 : P.underlying t = some (.struct fs))
    (h3 : ∀ w, (fs.mapM (fun f => do pure (f.offset, ← sizeOf f.type) : Field → Sem (Nat × Nat))).run P w = .ok pl.toArray w) : PlacesOf P t pl z := ⟨fun parts w => by
  simp only [Instr.build, Sem.run_bind, h1, Result.andThen_ok, run_underlying h2, h3, hz]
  have : (fun x => pl.toArray[x]?) = (fun x : Nat => pl[x]?) := by funext x; simp
  simp only [this]
  cases Instr.fill (fun x => pl[x]?) z.toArray parts.toList <;> rfl⟩

theorem T.mk {P : Program} {X : Cx} {e : Env} {l : List (Nat × Obj)} {H : Hp} {D : List Deferred} {k : List It} (h : ∀ a w, Ea X e D a → Wd X l H w → wpK P X.ro X.Q k .normal a w) : T P X e l H D k := h
theorem T.get {P : Program} {X : Cx} {e : Env} {l : List (Nat × Obj)} {H : Hp} {D : List Deferred} {k : List It} (h : T P X e l H D k) : ∀ a w, Ea X e D a → Wd X l H w → wpK P X.ro X.Q k .normal a w := h
theorem PV.mk {P : Program} {e : Env} {l : List (Nat × Obj)} {H : Hp} {o : Oper} {v : Value} (h : ∀ (X : Cx) (D : List Deferred) (a : Act) (w : World), Ea X e D a → Wd X l H w → (execOp a.eval o).run P w = .ok (.value v) w) : PV P e l H o v := h
theorem PV.get {P : Program} {e : Env} {l : List (Nat × Obj)} {H : Hp} {o : Oper} {v : Value} (h : PV P e l H o v) : ∀ (X : Cx) (D : List Deferred) (a : Act) (w : World), Ea X e D a → Wd X l H w → (execOp a.eval o).run P w = .ok (.value v) w := h
theorem Wanted.get {e : Env} {all : Array Oper} {o : Oper} (h : Wanted e all o) : ∀ (X : Cx) (D : List Deferred) (a : Act), Ea X e D a → Region.wanted o (yielded all a.tmps) = true := h
theorem Unwanted.get {e : Env} {all : Array Oper} {o : Oper} (h : Unwanted e all o) : ∀ (X : Cx) (D : List Deferred) (a : Act), Ea X e D a → Region.wanted o (yielded all a.tmps) = false := h
theorem Fn.get {P : Program} {f : FuncId} {args : Array Value} {H : Hp} {R : Value → Hp → Prop} (h : Fn P f args H R) : ∀ w, Hin H w → CallsIn Fence.wide 0 P f args w (FnR w H R) := h
theorem Lv.mk {P : Program} {X : Cx} {fn : Func} {R : Ending → World → Prop} {e : Env} {l : List (Nat × Obj)} {H : Hp} {D : List Deferred} (h : ∀ D0 a w, Ea X e D0 a → Wd X l H w → LeavesInM Fence.wide 0 P fn a.tmps R D .returning w) : Lv P X fn R e l H D := h
theorem RV.mk {P : Program} {fn : Func} {e : Env} {l : List (Nat × Obj)} {H : Hp} {v : Value} (h : ∀ X D a w, Ea X e D a → Wd X l H w → (results fn a.tmps).run P w = .ok v w) : RV P fn e l H v := h
theorem RV.get {P : Program} {fn : Func} {e : Env} {l : List (Nat × Obj)} {H : Hp} {v : Value} (h : RV P fn e l H v) : ∀ X D a w, Ea X e D a → Wd X l H w → (results fn a.tmps).run P w = .ok v w := h
theorem Lv.get {P : Program} {X : Cx} {fn : Func} {R : Ending → World → Prop} {e : Env} {l : List (Nat × Obj)} {H : Hp} {D : List Deferred} (h : Lv P X fn R e l H D) : ∀ D0 a w, Ea X e D0 a → Wd X l H w → LeavesInM Fence.wide 0 P fn a.tmps R D .returning w := h
attribute [irreducible] T PV Wanted Unwanted Fn Lv RV CV
section
variable {P : Program} {X : Cx} {e : Env} {l : List (Nat × Obj)} {H : Hp} {D : List Deferred} {k : List It} {all : Array Oper} {rest : List Oper} {d : Nat} {op : Op} {ty : TypeId} {pos : String} {after : Array Edge} {v : Value} {x y z : Operand}
theorem sv (hv : PV P e l H ⟨some d, op, ty, pos, after, none⟩ v) (h : T P X ((d, v) :: e) l H D (.ops all rest :: k)) (hN : Nat.blt d X.N = true := by exact rfl) : T P X e l H D (.ops all (⟨some d, op, ty, pos, after, none⟩ :: rest) :: k) := T.pv hv Wanted.none rfl hN h
theorem gv {j dj : Nat} {want t : Bool} (hv : PV P e l H ⟨some d, op, ty, pos, after, some (j, want)⟩ v) (h : T P X ((d, v) :: e) l H D (.ops all rest :: k)) (hj : (all[j]?).bind (·.dst) = some dj := by exact rfl) (he : e.get dj = some (.bool t) := by exact rfl) (ht : t = want := by exact rfl) (hN : Nat.blt d X.N = true := by exact rfl) :
    T P X e l H D (.ops all (⟨some d, op, ty, pos, after, some (j, want)⟩ :: rest) :: k) := T.pv hv (Wanted.guard hj he ht) rfl hN h
theorem sm (h : T P X ((d, v) :: e) l H D (.ops all rest :: k)) (hx : evE e x = some v := by exact rfl) (hN : Nat.blt d X.N = true := by exact rfl) : T P X e l H D (.ops all (⟨some d, .move x, ty, pos, after, none⟩ :: rest) :: k) := sv (PV.move hx) h hN
theorem sa (h : T P X ((d, v) :: e) l H D (.ops all rest :: k)) (hx : evE e x = some v := by exact rfl) (hN : Nat.blt d X.N = true := by exact rfl) : T P X e l H D (.ops all (⟨some d, .assign x, ty, pos, after, none⟩ :: rest) :: k) := sv (PV.assign hx) h hN
theorem sf {s : TypeId} {f off : Nat} [FldAt P s f off] {b o : Nat} (h : T P X ((d, .pointer (some ⟨b, o + off, none⟩)) :: e) l H D (.ops all rest :: k)) (hx : evE e x = some (.pointer (some ⟨b, o, none⟩)) := by exact rfl) (hN : Nat.blt d X.N = true := by exact rfl) : T P X e l H D (.ops all (⟨some d, .fieldAddr s x f, ty, pos, after, none⟩ :: rest) :: k) := sv (PV.fieldAddr hx) h hN
theorem sl {t t' : TypeId} [IsOne P t] {b o : Nat} {cs : List Value} {fz : Nat × Nat} (h : T P X ((d, v) :: e) l H D (.ops all rest :: k)) (hx : evE e x = some (.pointer (some ⟨b, o, none⟩)) := by exact rfl) (hb : SomeObj l H b (.cells cs.toArray t' fz) := by first | exact .fro (by assumption) | exact .own (by repeat (first | exact List.Mem.head _ | apply List.Mem.tail | apply List.mem_append_right))) (hc : cs[o]? = some v := by exact rfl) (hN : Nat.blt d X.N = true := by exact rfl) :
    T P X e l H D (.ops all (⟨some d, .load t x, ty, pos, after, none⟩ :: rest) :: k) := sv (PV.load1 hx hb hc) h hN
theorem sp {j dj : Nat} {want t : Bool} (h : T P X ((d, undef) :: e) l H D (.ops all rest :: k)) (hj : (all[j]?).bind (·.dst) = some dj := by exact rfl) (he : e.get dj = some (.bool t) := by exact rfl) (ht : t = !want := by exact rfl) (hN : Nat.blt d X.N = true := by exact rfl) :
    T P X e l H D (.ops all (⟨some d, op, ty, pos, after, some (j, want)⟩ :: rest) :: k) := T.pass (Unwanted.guard hj he ht) rfl hN h
theorem su {j dj : Nat} {want : Bool} (h : T P X ((d, undef) :: e) l H D (.ops all rest :: k)) (hj : (all[j]?).bind (·.dst) = some dj := by exact rfl) (he : e.get dj = some undef := by exact rfl) (hN : Nat.blt d X.N = true := by exact rfl) :
    T P X e l H D (.ops all (⟨some d, op, ty, pos, after, some (j, want)⟩ :: rest) :: k) := T.pass (Unwanted.undef hj he) rfl hN h
theorem sF {t : Bool} (h : T P X ((d, v) :: e) l H D (.ops all rest :: k)) (hc : evE e x = some (.bool t) := by exact rfl) (ht : t = false := by exact rfl) (hx : evE e z = some v := by exact rfl) (hN : Nat.blt d X.N = true := by exact rfl) : T P X e l H D (.ops all (⟨some d, .pick x y z, ty, pos, after, none⟩ :: rest) :: k) := sv (PV.pickF hc ht hx) h hN
theorem sT {t : Bool} (h : T P X ((d, v) :: e) l H D (.ops all rest :: k)) (hc : evE e x = some (.bool t) := by exact rfl) (ht : t = true := by exact rfl) (hx : evE e y = some v := by exact rfl) (hN : Nat.blt d X.N = true := by exact rfl) : T P X e l H D (.ops all (⟨some d, .pick x y z, ty, pos, after, none⟩ :: rest) :: k) := sv (PV.pickT hc ht hx) h hN
theorem gm {j dj : Nat} {want t : Bool} (h : T P X ((d, v) :: e) l H D (.ops all rest :: k)) (hx : evE e x = some v := by exact rfl) (hj : (all[j]?).bind (·.dst) = some dj := by exact rfl) (he : e.get dj = some (.bool t) := by exact rfl) (ht : t = want := by exact rfl) (hN : Nat.blt d X.N = true := by exact rfl) :
    T P X e l H D (.ops all (⟨some d, .move x, ty, pos, after, some (j, want)⟩ :: rest) :: k) := gv (PV.move hx) h hj he ht hN
theorem gf {s : TypeId} {f off : Nat} [FldAt P s f off] {b o : Nat} {j dj : Nat} {want t : Bool} (h : T P X ((d, .pointer (some ⟨b, o + off, none⟩)) :: e) l H D (.ops all rest :: k)) (hx : evE e x = some (.pointer (some ⟨b, o, none⟩)) := by exact rfl) (hj : (all[j]?).bind (·.dst) = some dj := by exact rfl) (he : e.get dj = some (.bool t) := by exact rfl) (ht : t = want := by exact rfl) (hN : Nat.blt d X.N = true := by exact rfl) :
    T P X e l H D (.ops all (⟨some d, .fieldAddr s x f, ty, pos, after, some (j, want)⟩ :: rest) :: k) := gv (PV.fieldAddr hx) h hj he ht hN
theorem gl {t t' : TypeId} [IsOne P t] {b o : Nat} {cs : List Value} {fz : Nat × Nat} {j dj : Nat} {want t0 : Bool} (h : T P X ((d, v) :: e) l H D (.ops all rest :: k)) (hx : evE e x = some (.pointer (some ⟨b, o, none⟩)) := by exact rfl) (hb : SomeObj l H b (.cells cs.toArray t' fz) := by first | exact .fro (by assumption) | exact .own (by repeat (first | exact List.Mem.head _ | apply List.Mem.tail | apply List.mem_append_right))) (hc : cs[o]? = some v := by exact rfl) (hj : (all[j]?).bind (·.dst) = some dj := by exact rfl) (he : e.get dj = some (.bool t0) := by exact rfl) (ht : t0 = want := by exact rfl) (hN : Nat.blt d X.N = true := by exact rfl) :
    T P X e l H D (.ops all (⟨some d, .load t x, ty, pos, after, some (j, want)⟩ :: rest) :: k) := gv (PV.load1 hx hb hc) h hj he ht hN
theorem so (h : T P X e l H D k) : T P X e l H D (.ops all [] :: k) := T.opsNil h
theorem sq {c1 c2 : Code} (h : T P X e l H D (.code c1 :: .code c2 :: k)) : T P X e l H D (.code (.seq c1 c2) :: k) := T.seq h
theorem sr {id : Nat} {os : List Oper} (h : T P X e l H D (.ops os.toArray os :: k)) : T P X e l H D (.code (.region id os.toArray false) :: k) := T.region h
theorem sC {c1 c2 : Code} {p : Prop} {i : Decidable p} (hc : evE e x = some (.bool (decide p))) (hp : p) (h : T P X e l H D (.code c1 :: k)) : T P X e l H D (.code (.cond x c1 c2) :: k) := T.condT hc (decide_eq_true hp) h
theorem sd {c1 c2 : Code} {p : Prop} {i : Decidable p} (hc : evE e x = some (.bool (decide p))) (hp : ¬ p) (h : T P X e l H D (.code c2 :: k)) : T P X e l H D (.code (.cond x c1 c2) :: k) := T.condF hc (decide_eq_false hp) h
theorem zs1 {id : Nat} {os : List Oper} {c2 : Code} (h : T P X e l H D (.ops os.toArray os :: .code c2 :: k)) : T P X e l H D (.ops all [] :: .code (.seq (.region id os.toArray false) c2) :: k) := so (sq (sr h))
theorem zs2 {id : Nat} {os : List Oper} (h : T P X e l H D (.ops os.toArray os :: k)) : T P X e l H D (.ops all [] :: .code (.region id os.toArray false) :: k) := so (sr h)
theorem zs3 {id : Nat} {os : List Oper} {c2 : Code} (h : T P X e l H D (.ops os.toArray os :: .code c2 :: k)) : T P X e l H D (.code (.seq (.region id os.toArray false) c2) :: k) := sq (sr h)
theorem sy {t : TypeId} {zs : List Value} [ZeroOf P t zs] (h : ∀ b, T P X ((d, .pointer (some ⟨b, 0, none⟩)) :: e) ((b, .cells zs.toArray t (0, 0)) :: l) H D (.ops all rest :: k)) (hN : Nat.blt d X.N = true := by exact rfl) : T P X e l H D (.ops all (⟨some d, .alloc t, ty, pos, after, none⟩ :: rest) :: k) := T.alloc Wanted.none hN h
end

end Go.Proofs.YtecogbhbkccblaaGreatDoor
namespace Go.Proofs.YtecogbhbkccblaaGreatDoor
open Go.RowKit

/-! ### slices of the call's own -/
/-- A slice that the walk owns: nil, or a row of its own. -/
def Vec (el sz : Nat) (v : Value) (lv : List (Nat × Obj)) (n : Nat) (xs : List Value) : Prop :=
  xs.length = n * sz ∧ (((∃ ad, v = .slice ad 0 0) ∧ lv = [] ∧ n = 0) ∨
    ∃ b cap cs, v = .slice (some ⟨b, 0, none⟩) n cap ∧ lv = [(b, .cells (List.toArray cs) el (0, 0))] ∧ n ≤ cap ∧ cap ≤ maxLen ∧ cs.length = cap * sz ∧ cs.take (n * sz) = xs)
theorem Vec.nil (el sz : Nat) : Vec el sz (.slice none 0 0) [] 0 [] := ⟨by simp, .inl ⟨⟨_, rfl⟩, rfl, rfl⟩⟩
theorem Vec.empty (el sz : Nat) (ad : Option Addr) : Vec el sz (.slice ad 0 0) [] 0 [] := ⟨by simp, .inl ⟨⟨_, rfl⟩, rfl, rfl⟩⟩
theorem run_firstCells0 {P : Program} {sz : Nat} {ad : Option Addr} {n cap : Nat} {w : World} : (Builtin.firstCells sz 0 (.slice ad n cap)).run P w = .ok #[] w := by
  cases ad <;> simp [Builtin.firstCells, loadCells, loadCellsFrom]
theorem Vec.val {el sz : Nat} {v : Value} {lv : List (Nat × Obj)} {n : Nat} {xs : List Value} (h : Vec el sz v lv n xs) : ∃ ad cap, v = .slice ad n cap := by
  rcases h.2 with ⟨⟨ad, rfl⟩, _, rfl⟩ | ⟨b, cap, cs, rfl, _⟩
  · exact ⟨_, _, rfl⟩
  · exact ⟨_, _, rfl⟩

class ElOf (P : Program) (el : TypeId) (sz bytes : outParam Nat) : Prop where
  h : ∃ (i : TypeInfo) (z : Value), P.info? el = some i ∧ i.zero = some z ∧ i.size = sz ∧ i.bytes = bytes ∧ z.cells.size = sz ∧ 0 < sz
theorem elOf_mk {P : Program} {el : TypeId} {sz bytes : Nat} (h : (P.info? el).map (fun i => (i.size, i.bytes, i.zero.map fun z => z.cells.size)) = some (sz, bytes, some sz)) (h0 : 0 < sz) : ElOf P el sz bytes := ⟨by
  cases hi : P.info? el with
  | none => rw [hi] at h; cases h
  | some i =>
    rw [hi] at h
    simp only [Option.map_some, Option.some.injEq, Prod.mk.injEq] at h
    obtain ⟨h1, h2, h3⟩ := h
    cases hz : i.zero with
    | none => rw [hz] at h3; cases h3
    | some z => rw [hz] at h3; exact ⟨i, z, rfl, hz, h1, h2, by simpa using h3, h0⟩⟩
class NotInt (P : Program) (t : TypeId) : Prop where
  h : P.underlying t = some .string ∨ ∃ e, P.underlying t = some (.slice e)

/-- What append takes its new cells from. -/
def Src (P : Program) (l : List (Nat × Obj)) (H : Hp) (sz : Nat) (y : Value) (m : Nat) (ys : List Value) : Prop :=
  ys.length = m * sz ∧ (∀ w, (Builtin.lenOf y).run P w = .ok m w) ∧ ∀ X w, Wd X l H w → (Builtin.firstCells sz m y).run P w = .ok ys.toArray w

theorem Src.empty {P : Program} {l : List (Nat × Obj)} {H : Hp} {sz : Nat} {ad : Option Addr} {cap : Nat} : Src P l H sz (.slice ad 0 cap) 0 [] :=
  ⟨by simp, fun w => by simp [Builtin.lenOf], fun X w hw => run_firstCells0⟩
theorem Src.cells {P : Program} {l : List (Nat × Obj)} {H : Hp} {sz b o m c t : Nat} {cs ys : List Value} {fz : Nat × Nat} (hb : SomeObj l H b (.cells cs.toArray t fz)) (hv : (cs.drop o).take (m * sz) = ys) (hl : ys.length = m * sz) : Src P l H sz (.slice (some ⟨b, o, none⟩) m c) m ys :=
  ⟨hl, fun w => by simp [Builtin.lenOf], fun X w hw => by
    simp only [Builtin.firstCells]
    exact run_loadCells_of (hb.heap hw) hv hl⟩
def bytesV (s : List UInt8) : List Value := s.map fun b => .int .u8 (b.toNat : Int)
theorem Src.str {P : Program} {l : List (Nat × Obj)} {H : Hp} {s : ByteArray} : Src P l H 1 (.string s) s.size (bytesV s.data.toList) :=
  ⟨by simp [bytesV], fun w => by simp [Builtin.lenOf], fun X w hw => by
    have h2 : s.extract 0 s.size = s := by simp
    simp only [Builtin.firstCells, bytesV, Sem.run_pure, h2]
    congr 1
    apply Array.ext'
    simp⟩

section
variable {P : Program} {X : Cx} {e : Env} {l : List (Nat × Obj)} {H : Hp} {D : List Deferred} {k : List It}
variable {ty : TypeId} {pos : String} {after : Array Edge} {gd : Option (Nat × Bool)} {all : Array Oper} {rest : List Oper}

theorem run_append_fit {t t' el sz cap n m b : Nat} (ht : P.underlying t = some (.slice el)) (hs : ∀ w, (sizeOf el).run P w = .ok sz w) (hd : P.underlying t' = some .string ∨ ∃ e, P.underlying t' = some (.slice e)) {y : Value} {ys cs : List Value} {w : World}
    (hlen : (Builtin.lenOf y).run P w = .ok m w) (hf : (Builtin.firstCells sz m y).run P w = .ok ys.toArray w) (hroom : n + m ≤ cap) (hb : w.heap[b]? = some (.cells cs.toArray el (0, 0))) (hfit : n * sz + ys.length ≤ cs.length) (h1 : ∀ u ∈ ys, u.oneCell' = true) :
    (Builtin.append_ #[t, t'] ty #[.slice (some ⟨b, 0, none⟩) n cap, y]).run P w = .ok (.slice (some ⟨b, 0, none⟩) (n + m) cap) (w.putObj b (.cells (cs.take (n * sz) ++ ys ++ cs.drop (n * sz + ys.length)).toArray el (0, 0))) := by
  have hst := run_storeCells_at (P := P) (w := w) ys cs (n * sz) 0 w hb (by simpa using hfit) h1
  simp only [Nat.add_zero] at hst
  have had : (⟨b, 0, none⟩ : Addr).add (n * sz) = ⟨b, n * sz, none⟩ := by unfold Addr.add; split <;> simp_all
  rcases hd with hd | ⟨e, hd⟩
  all_goals simp [Builtin.append_, run_underlying ht, run_underlying hd, hs, hlen, hroom, hf, had, hst]
theorem run_append_new {t t' el sz bytes cap n m : Nat} (ht : P.underlying t = some (.slice el)) {i : TypeInfo} {z : Value} (hi : P.info? el = some i) (hz : i.zero = some z) (hsz : i.size = sz) (hby : i.bytes = bytes) (hd : P.underlying t' = some .string ∨ ∃ e, P.underlying t' = some (.slice e)) {v y : Value} {ad : Option Addr} {xs ys : List Value} {w : World}
    (hv : v = .slice ad n cap) (hlen : (Builtin.lenOf y).run P w = .ok m w) (hfo : (Builtin.firstCells sz n v).run P w.drew = .ok xs.toArray w.drew) (hf : (Builtin.firstCells sz m y).run P w.drew = .ok ys.toArray w.drew) (hroom : cap < n + m) (hb : (n + m) * bytes ≤ 140737488355328) (hm : n + m ≤ 140737488355328) :
    (Builtin.append_ #[t, t'] ty #[v, y]).run P w = .ok (.slice (some ⟨w.heap.size, 0, none⟩) (n + m) (grownCap w (n + m) cap el)) (w.drew.alloc (.cells ((xs ++ ys).toArray ++ Builtin.zeroCells z.cells (grownCap w (n + m) cap el - (n + m))) el)) := by
  subst hv hsz hby
  have h48' : ¬ (281474976710656 < Builtin.nextslicecap (n + m) cap * i.bytes) := by
    have := growslice_fits (need := n + m) (old := cap) (bytes := i.bytes) (by omega) hb; omega
  have h63 : ¬ (9223372036854775807 < (n : Int) + (m : Int)) := by omega
  have hr : ¬ (n + m ≤ cap) := by omega
  rcases hd with hd | ⟨e, hd⟩
  all_goals simp [Builtin.append_, run_underlying ht, run_underlying hd, sizeOf, typeInfo, hi, hlen, hr, h63, h48', Question.forced, hfo, hf, zeroValue, hz, newRow, grownCap]
  all_goals rw [show (xs ++ ys).toArray = xs.toArray ++ ys.toArray by simp, Array.append_assoc]
theorem grown_cs (w : World) {n m old el sz : Nat} {z : Value} {xs ys : List Value} (hxl : xs.length = n * sz) (hyl : ys.length = m * sz) (hzs : z.cells.size = sz) (hm : n + m ≤ 140737488355328) :
    ∃ (cs : List Value), ((xs ++ ys).toArray ++ Builtin.zeroCells z.cells (grownCap w (n + m) old el - (n + m))) = cs.toArray ∧ grownCap w (n + m) old el ≤ maxLen ∧ n + m ≤ grownCap w (n + m) old el ∧ cs.length = grownCap w (n + m) old el * sz ∧ cs.take ((n + m) * sz) = xs ++ ys := by
  have hge := grownCap_ge w (n + m) old el
  have hcm : grownCap w (n + m) old el ≤ maxLen := grownCap_le_maxLen w (n + m) old el (by simp only [maxLen]; omega)
  have hl : (xs ++ ys).length = (n + m) * sz := by rw [List.length_append, hxl, hyl, Nat.add_mul]
  refine ⟨xs ++ ys ++ (Builtin.zeroCells z.cells (grownCap w (n + m) old el - (n + m))).toList, by simp, hcm, hge, ?_, ?_⟩
  · have : (Builtin.zeroCells z.cells (grownCap w (n + m) old el - (n + m))).toList.length = (grownCap w (n + m) old el - (n + m)) * sz := by simp [Builtin.zeroCells, hzs]
    rw [List.length_append, this, hl, ← Nat.add_mul]
    congr 1; omega
  · rw [← hl, List.take_left]
theorem vec_append {t t' el sz bytes : Nat} [hs : SlOf P t el sz] [he : ElOf P el sz bytes] [hn' : NotInt P t'] {v y : Value} {lv r : List (Nat × Obj)} {n m : Nat} {xs ys : List Value} {w : World}
    (hw : Wd X (lv ++ r) H w) (hv : Vec el sz v lv n xs) (hsrc : Src P (lv ++ r) H sz y m ys) (h1 : ∀ u ∈ ys, u.oneCell' = true) (hb : (n + m) * bytes ≤ 140737488355328) (hm : n + m ≤ 140737488355328) :
    ∃ v' lv' w', (Builtin.append_ #[t, t'] ty #[v, y]).run P w = .ok v' w' ∧ Vec el sz v' lv' (n + m) (xs ++ ys) ∧ Wd X (lv' ++ r) H w' ∧ (v' = .slice none 0 0 → n + m = 0) := by
  obtain ⟨i, z, hi, hz, hsz, hby, hzs, hpos⟩ := he.h
  obtain ⟨hyl, hlen, hfc⟩ := hsrc
  have hxl := hv.1
  have hxy : (xs ++ ys).length = (n + m) * sz := by rw [List.length_append, hxl, hyl, Nat.add_mul]
  rcases hv with ⟨_, ⟨⟨ad, rfl⟩, rfl, rfl⟩ | ⟨b, cap, cs, rfl, rfl, hnc, hcm, hcl, htk⟩⟩
  · have hx : xs = [] := List.eq_nil_of_length_eq_zero (by simpa using hxl)
    subst hx
    by_cases hm0 : m = 0
    · subst hm0
      have hy0 : ys = [] := List.eq_nil_of_length_eq_zero (by simpa using hyl)
      subst hy0
      refine ⟨.slice ad 0 0, [], w, ?_, Vec.empty _ _ _, hw, fun _ => rfl⟩
      have hf := hfc X w hw
      have hlw := hlen w
      rcases hn'.h with hd | ⟨e, hd⟩
      all_goals cases ad <;> simp [Builtin.append_, run_underlying hs.h, run_underlying hd, hs.s, hlw, hf, storeCells]
    · have hr := run_append_new (ty := ty) hs.h hi hz hsz hby hn'.h (n := 0) (cap := 0) (v := .slice ad 0 0) rfl (hlen w) (xs := []) run_firstCells0 (hfc X w.drew hw.drew) (by omega) hb hm
      obtain ⟨cs, c1, c2, c3, c4, c5⟩ := grown_cs w (n := 0) (m := m) (old := 0) (el := el) (z := z) (xs := []) (ys := ys) (by simp) hyl hzs hm
      rw [c1] at hr
      have hwd : Wd X ((w.heap.size, Obj.cells cs.toArray el) :: ([] ++ r)) H (w.drew.alloc (.cells cs.toArray el)) := hw.drew.alloc _
      exact ⟨_, [(w.heap.size, .cells cs.toArray el)], _, hr, ⟨hxy, .inr ⟨_, _, cs, rfl, rfl, c3, c2, c4, c5⟩⟩, hwd, by simp⟩
  · have hmem : (b, Obj.cells (List.toArray cs) el (0, 0)) ∈ [(b, Obj.cells (List.toArray cs) el (0, 0))] ++ r := by simp
    have hbk := (hw.own _ hmem).1
    simp only at hbk
    by_cases hroom : n + m ≤ cap
    · have hfit : n * sz + ys.length ≤ cs.length := by rw [hyl, hcl, ← Nat.add_mul]; exact Nat.mul_le_mul_right _ hroom
      have hu : Upd ((b, Obj.cells (List.toArray cs) el (0, 0)) :: r) b (Obj.cells (List.toArray cs) el (0, 0)) (.cells (cs.take (n * sz) ++ ys ++ cs.drop (n * sz + ys.length)).toArray el (0, 0)) ((b, .cells (cs.take (n * sz) ++ ys ++ cs.drop (n * sz + ys.length)).toArray el (0, 0)) :: r) := Upd.head
      have hup := hw.upd hu
      have hr := run_append_fit (ty := ty) hs.h hs.s hn'.h (hlen w) (hfc X w hw) hroom hbk hfit h1
      refine ⟨_, [(b, .cells (cs.take (n * sz) ++ ys ++ cs.drop (n * sz + ys.length)).toArray el (0, 0))], _, hr, ⟨hxy, .inr ⟨b, cap, _, rfl, rfl, hroom, hcm, ?_, ?_⟩⟩, hup, by simp⟩
      · rw [List.length_append, List.length_append, List.length_take, List.length_drop]; omega
      · rw [htk, ← hxy, List.take_left]
    · have hfo : (Builtin.firstCells sz n (.slice (some ⟨b, 0, none⟩) n cap)).run P w.drew = .ok xs.toArray w.drew := by
        simp only [Builtin.firstCells]
        exact run_loadCells_of (w := w.drew) hbk (by simpa using htk) hxl
      have hr := run_append_new (ty := ty) hs.h hi hz hsz hby hn'.h rfl (hlen w) hfo (hfc X w.drew hw.drew) (by omega) hb hm
      obtain ⟨cs', c1, c2, c3, c4, c5⟩ := grown_cs w (n := n) (m := m) (old := cap) (el := el) (z := z) (xs := xs) (ys := ys) hxl hyl hzs hm
      rw [c1] at hr
      have hwd : Wd X ((w.heap.size, Obj.cells cs'.toArray el) :: ([(b, Obj.cells (List.toArray cs) el (0, 0))] ++ r)) H (w.drew.alloc (.cells cs'.toArray el)) := hw.drew.alloc _
      exact ⟨_, [(w.heap.size, .cells cs'.toArray el)], _, hr, ⟨hxy, .inr ⟨_, _, cs', rfl, rfl, c3, c2, c4, c5⟩⟩, hwd.sub (.cons_cons _ (.cons _ (List.Sublist.refl _))), by simp⟩

/-- append, to a slice of the walk's own. -/
theorem T.append {t t' el sz bytes d : Nat} [hs : SlOf P t el sz] [he : ElOf P el sz bytes] [hn' : NotInt P t'] {x y : Operand} {v yv : Value} {lv : List (Nat × Obj)} (al : List (Nat × Obj)) {bl : List (Nat × Obj)} {n m : Nat} {xs ys : List Value}
    (hw : Wanted e all ⟨some d, .call ⟨.builtin .append, #[x, y], #[t, t']⟩, ty, pos, after, gd⟩) (hN : Nat.blt d X.N = true) (hx : evE e x = some v) (hy : evE e y = some yv)
    (hv : Vec el sz v lv n xs) (hsrc : Src P (al ++ (lv ++ bl)) H sz yv m ys) (h1 : ∀ u ∈ ys, u.oneCell' = true) (hb : (n + m) * bytes ≤ 140737488355328 ∧ n + m ≤ 140737488355328)
    (h : ∀ v' lv', Vec el sz v' lv' (n + m) (xs ++ ys) → (v' = .slice none 0 0 → n + m = 0) → T P X ((d, v') :: e) (al ++ (lv' ++ bl)) H D (.ops all rest :: k)) :
    T P X e (al ++ (lv ++ bl)) H D (.ops all (⟨some d, .call ⟨.builtin .append, #[x, y], #[t, t']⟩, ty, pos, after, gd⟩ :: rest) :: k) :=
  T.step hw rfl hN fun a w ha hw' => by
    have hp : ∀ lv : List (Nat × Obj), (lv ++ (al ++ bl)).Perm (al ++ (lv ++ bl)) := fun lv => by
      rw [← List.append_assoc, ← List.append_assoc]
      exact List.perm_append_comm.append_right _
    have hsrc' : Src P (lv ++ (al ++ bl)) H sz yv m ys := ⟨hsrc.1, hsrc.2.1, fun X w hw => hsrc.2.2 X w (hw.perm (hp lv).symm)⟩
    obtain ⟨v', lv', w', h2, h3, h4, h5⟩ := vec_append (t := t) (t' := t') (ty := ty) (hw'.perm (hp lv)) hv hsrc' h1 hb.1 hb.2
    refine ⟨v', al ++ (lv' ++ bl), H, w', ?_, h4.perm (hp lv').symm, h v' lv' h3 h5⟩
    simp [execOp, resolve, invoke, builtin, ha.eval hx, ha.eval hy, h2]

theorem T.appendE {t t' el sz bytes d : Nat} [hs : SlOf P t el sz] [he : ElOf P el sz bytes] [hn' : NotInt P t'] {x y : Operand} {v yv : Value} {lv : List (Nat × Obj)} (al : List (Nat × Obj)) {n m : Nat} {xs ys : List Value}
    (hw : Wanted e all ⟨some d, .call ⟨.builtin .append, #[x, y], #[t, t']⟩, ty, pos, after, gd⟩) (hN : Nat.blt d X.N = true) (hx : evE e x = some v) (hy : evE e y = some yv)
    (hv : Vec el sz v lv n xs) (hsrc : Src P (al ++ lv) H sz yv m ys) (h1 : ∀ u ∈ ys, u.oneCell' = true) (hb : (n + m) * bytes ≤ 140737488355328 ∧ n + m ≤ 140737488355328)
    (h : ∀ v' lv', Vec el sz v' lv' (n + m) (xs ++ ys) → (v' = .slice none 0 0 → n + m = 0) → T P X ((d, v') :: e) (al ++ lv') H D (.ops all rest :: k)) :
    T P X e (al ++ lv) H D (.ops all (⟨some d, .call ⟨.builtin .append, #[x, y], #[t, t']⟩, ty, pos, after, gd⟩ :: rest) :: k) := by
  have := T.append (X := X) (D := D) (k := k) (rest := rest) (ty := ty) al (bl := []) hw hN hx hy hv (by rw [List.append_nil]; exact hsrc) h1 hb (fun v' lv' h2 h3 => by rw [List.append_nil]; exact h v' lv' h2 h3)
  rwa [List.append_nil] at this

/-- The parts of a slice literal, one behind the other. -/
inductive FillAll (sz : Nat) : Nat → List (Nat × Value) → List Value → Prop
  | nil {i} : FillAll sz i [] []
  | cons {i v vs rest cs} (h2 : CellsR v vs) (h3 : Nat.beq vs.length sz = true) (h5 : FillAll sz (i + 1) rest cs) : FillAll sz i ((i, v) :: rest) (vs ++ cs)
theorem FillAll.fill {sz i : Nat} {parts : List (Nat × Value)} {cs : List Value} (h : FillAll sz i parts cs) : ∀ pre z : List Value, pre.length = i * sz → z.length = parts.length * sz → Instr.fill (fun i => some (i * sz, sz)) (pre ++ z).toArray parts = some (pre ++ cs).toArray := by
  induction h with
  | nil => intro pre z h1 h2; simp at h2; subst h2; simp [Instr.fill]
  | @cons i v vs rest cs h2 h3 h5 ih =>
    intro pre z hp hz
    have hs := Nat.eq_of_beq_eq_true h3
    have hsz : v.cells.size = vs.length := by rw [h2.cells]; simp
    simp only [List.length_cons, Nat.add_mul, Nat.one_mul] at hz
    simp only [Instr.fill]
    rw [if_neg (by simp [hsz, hs, hp, hz])]
    have hf : v.cells.zipIdx.foldl (fun cs (p : Value × Nat) => cs.setIfInBounds (i * sz + p.2) p.1) (pre ++ z).toArray = ((pre ++ vs) ++ z.drop sz).toArray := by
      rw [h2.cells]
      have := splice_fold vs (pre ++ z) (i * sz) 0 (by rw [List.length_append, hp, hz, hs]; omega)
      simp only [Nat.add_zero] at this
      have e1 : (pre ++ z).take (i * sz) = pre := by rw [← hp, List.take_left]
      have e2 : (pre ++ z).drop (i * sz + vs.length) = z.drop sz := by rw [← hp, ← List.drop_drop, List.drop_left, hs]
      rw [e1, e2] at this
      rw [← this]
      simp [← Array.foldl_toList]
    rw [hf, ih (pre ++ vs) (z.drop sz) (by rw [List.length_append, hp, hs, Nat.add_mul, Nat.one_mul]) (by rw [List.length_drop, hz]; omega)]
    simp
theorem T.buildSlice {t el sz bytes d len : Nat} [hs : SlOf P t el sz] [he : ElOf P el sz bytes] {ps : List (Nat × Operand)} {vs : List (Nat × Value)} {cs : List Value}
    (hw : Wanted e all ⟨some d, .buildSlice t len ps.toArray, ty, pos, after, gd⟩) (hN : Nat.blt d X.N = true) (hp : evParts e ps = some vs)
    (hfa : FillAll sz 0 vs cs) (hvl : Nat.beq vs.length len = true) (hlen : Nat.ble (len * sz) 10000 = true)
    (h : ∀ b, T P X ((d, .slice (some ⟨b, 0, none⟩) len len) :: e) ((b, .cells cs.toArray el (0, 0)) :: l) H D (.ops all rest :: k)) :
    T P X e l H D (.ops all (⟨some d, .buildSlice t len ps.toArray, ty, pos, after, gd⟩ :: rest) :: k) :=
  T.step hw rfl hN fun a w ha hw' => by
    obtain ⟨i, z1, hi, hz, hsz, hby, hzs, hpos⟩ := he.h
    subst hsz
    have hvl' := Nat.eq_of_beq_eq_true hvl
    have hf : ∀ z0 : List Value, z0.length = len * i.size → Instr.fill (fun j => some (j * i.size, i.size)) z0.toArray vs = some cs.toArray := fun z0 h0 => by
      have := hfa.fill [] z0 (by simp) (by rw [h0, hvl'])
      simpa using this
    refine ⟨_, _, _, w.alloc (.cells cs.toArray el), ?_, hw'.alloc _, h w.heap.size⟩
    have h1 : (ps.toArray.map fun (p : Nat × Operand) => (p.1, a.eval p.2)) = vs.toArray := by rw [← evParts_map ha ps vs hp]; simp
    have hle := Nat.le_of_ble_eq_true hlen
    have hbig : ¬ (16777216 < len * i.size) := by omega
    simp only [execOp, Instr.buildSlice, Sem.run_bind, run_underlying hs.h, Result.andThen_ok, hs.s]
    rw [h1]
    by_cases h0 : len * i.size = 0
    · have := hf [] (by simp [h0])
      simp [hbig, h0, show Array.range 0 = #[] from rfl, this, newRow, newObj, Sem.run]
    · have := hf ((Array.range (len * i.size)).map (z1.cells[· % z1.cells.size]!)).toList (by simp)
      rw [Array.toArray_toList] at this
      simp [hbig, h0, zeroValue, typeInfo, hi, hz, this, newRow, newObj, Sem.run]

theorem T.makeSlice0 {t el sz bytes d : Nat} [hs : SlOf P t el sz] [he : ElOf P el sz bytes] {x y : Operand} {cap : Int}
    (hw : Wanted e all ⟨some d, .makeSlice t x y, ty, pos, after, gd⟩) (hN : Nat.blt d X.N = true) (hx : evE e x = some (.int .i64 0)) (hy : evE e y = some (.int .i64 cap)) (hc : 0 ≤ cap ∧ cap ≤ 140737488355328 ∧ (bytes : Int) * cap ≤ 140737488355328)
    (h : ∀ v lv, Vec el sz v lv 0 [] → v ≠ .slice none 0 0 → T P X ((d, v) :: e) (lv ++ l) H D (.ops all rest :: k)) :
    T P X e l H D (.ops all (⟨some d, .makeSlice t x y, ty, pos, after, gd⟩ :: rest) :: k) :=
  T.step hw rfl hN fun a w ha hw' => by
    obtain ⟨i, z1, hi, hz, hsz, hby, hzs, hpos⟩ := he.h
    subst hsz hby
    obtain ⟨c, rfl⟩ := Int.eq_ofNat_of_zero_le hc.1
    have hwr : IntKind.i64.wrap (c : Int) = c := wrap64_id (by omega)
    have hw0 : IntKind.i64.wrap (0 : Int) = 0 := by decide
    have hb1 : ¬ (281474976710656 < (i.bytes : Int) * c) := by omega
    have hb2 : ¬ ((c : Int) < 0) := by omega
    obtain ⟨cs, hcs⟩ : ∃ cs : List Value, (if c * i.size = 0 then (#[] : Array Value) else ((Array.range (c * i.size)).map (z1.cells[· % z1.cells.size]!))) = cs.toArray := ⟨_, (Array.toArray_toList (xs := _)).symm⟩
    have hcl : cs.length = c * i.size := by
      have := congrArg Array.size hcs
      simp at this
      rw [← this]; split
      · rename_i h0; simp [h0]
      · simp
    refine ⟨.slice (some ⟨w.heap.size, 0, none⟩) 0 c, [(w.heap.size, .cells cs.toArray el)] ++ l, H, w.alloc (.cells cs.toArray el), ?_, hw'.alloc _, h _ _ ⟨by simp, .inr ⟨_, c, cs, rfl, rfl, by omega, by unfold maxLen; omega, hcl, by simp⟩⟩ (by simp)⟩
    simp [execOp, Instr.makeSlice, ha.eval hx, ha.eval hy, run_underlying hs.h, asInt, asIntOf, typeInfo, hi, hwr, hw0, hb1, hb2, sizeOf]
    by_cases h0 : c * i.size = 0
    · rw [if_pos h0] at hcs
      simp [h0, newRow, ← hcs, show Array.range 0 = #[] from rfl]
    · rw [if_neg h0] at hcs
      simp [h0, newRow, zeroValue, typeInfo, hi, hz, ← hcs]
end

/-! ### slices that are only read -/
/-- The value reads as a slice of n elements of sz cells each: xs. -/
def SlR (H : Hp) (sz : Nat) (v : Value) (n : Nat) (xs : List Value) : Prop :=
  xs.length = n * sz ∧ (((∃ ad cap, v = .slice ad 0 cap) ∧ n = 0) ∨ ∃ b off cap cs t fz, v = .slice (some ⟨b, off, none⟩) n cap ∧ H b = some (.cells (List.toArray cs) t fz) ∧ (cs.drop off).take (n * sz) = xs ∧ n ≤ cap)
theorem SlR.mono {H H' : Hp} {sz : Nat} {v : Value} {n : Nat} {xs : List Value} (h : SlR H sz v n xs) (hl : H.le H') : SlR H' sz v n xs := by
  refine ⟨h.1, ?_⟩
  rcases h.2 with h | ⟨b, off, cap, cs, t, fz, h1, h2, h3, h4⟩
  · exact .inl h
  · exact .inr ⟨b, off, cap, cs, t, fz, h1, hl _ _ h2, h3, h4⟩
theorem SlR.len {H : Hp} {sz : Nat} {v : Value} {n : Nat} {xs : List Value} (h : SlR H sz v n xs) : ∃ ad cap, v = .slice ad n cap := by
  rcases h.2 with ⟨⟨ad, cap, rfl⟩, h0⟩ | ⟨b, off, cap, cs, t, fz, rfl, _⟩
  · exact ⟨ad, cap, by rw [h0]⟩
  · exact ⟨_, _, rfl⟩
theorem SlR.cap {H : Hp} {sz : Nat} {ad : Option Addr} {n c : Nat} {xs : List Value} (h : SlR H sz (.slice ad n c) n xs) : n ≤ c := by
  rcases h.2 with ⟨_, rfl⟩ | ⟨b, off, cap, cs, t, fz, hv, _, _, hc⟩
  · omega
  · injection hv with e1 e2 e3; omega
theorem SlR.empty {H : Hp} {sz : Nat} {ad : Option Addr} {cap : Nat} : SlR H sz (.slice ad 0 cap) 0 [] := ⟨by simp, .inl ⟨⟨_, _, rfl⟩, rfl⟩⟩
theorem SlR.src {P : Program} {l : List (Nat × Obj)} {H : Hp} {sz : Nat} {v : Value} {n : Nat} {xs : List Value} (h : SlR H sz v n xs) : Src P l H sz v n xs := by
  rcases h.2 with ⟨⟨ad, cap, rfl⟩, rfl⟩ | ⟨b, off, cap, cs, t, fz, rfl, h2, h3, h4⟩
  · have : xs = [] := List.eq_nil_of_length_eq_zero (by simpa using h.1)
    subst this; exact Src.empty
  · exact Src.cells (.fro h2) h3 h.1
/-- Some cells of a block that is only read. -/
def SubC (H : Hp) (b o : Nat) (vs : List Value) : Prop := ∃ cs t fz, H b = some (.cells (List.toArray cs) t fz) ∧ (cs.drop o).take vs.length = vs
theorem SubC.mono {H H' : Hp} {b o : Nat} {vs : List Value} (h : SubC H b o vs) (hl : H.le H') : SubC H' b o vs := by
  obtain ⟨cs, t, fz, h1, h2⟩ := h
  exact ⟨cs, t, fz, hl _ _ h1, h2⟩
/-- Element i of a slice that is only read: where it lies. -/
theorem SlR.elem {H : Hp} {sz : Nat} {v : Value} {n : Nat} {xs vs : List Value} {i : Nat} (h : SlR H sz v n xs) (hi : i < n) (hvs : (xs.drop (i * sz)).take sz = vs) :
    ∃ b off cap, v = .slice (some ⟨b, off, none⟩) n cap ∧ SubC H b (off + i * sz) vs := by
  rcases h.2 with ⟨_, rfl⟩ | ⟨b, off, cap, cs, t, fz, rfl, h2, h3, h4⟩
  · omega
  · refine ⟨b, off, cap, rfl, cs, t, fz, h2, ?_⟩
    have hle : (i + 1) * sz ≤ n * sz := Nat.mul_le_mul_right _ hi
    rw [Nat.add_mul, Nat.one_mul] at hle
    have hl : vs.length = sz := by rw [← hvs, List.length_take, List.length_drop, h.1]; omega
    rw [hl, ← hvs, ← h3, ← List.drop_drop, List.drop_take, List.take_take]
    congr 1; omega
theorem flat_elem {α : Type} {f : α → List Value} {sz : Nat} (hf : ∀ x, (f x).length = sz) : ∀ (xs : List α) (i : Nat) (x : α), xs[i]? = some x → ((xs.flatMap f).drop (i * sz)).take sz = f x
  | [], i, x, h => by simp at h
  | y :: ys, 0, x, h => by simp at h; subst h; simp [hf, List.take_append, List.take_of_length_le (Nat.le_of_eq (hf y))]
  | y :: ys, i + 1, x, h => by
    have h' : ys[i]? = some x := by simpa using h
    rw [List.flatMap_cons, Nat.add_mul, Nat.one_mul, Nat.add_comm, ← List.drop_drop, List.drop_append_of_le_length (Nat.le_of_eq (hf y).symm), List.drop_of_length_le (Nat.le_of_eq (hf y)), List.nil_append]
    exact flat_elem hf ys i x h'
theorem flat_len {α : Type} {f : α → List Value} {sz : Nat} (hf : ∀ x, (f x).length = sz) (xs : List α) : (xs.flatMap f).length = xs.length * sz := by
  induction xs with
  | nil => simp
  | cons y ys ih => simp [ih, hf, Nat.add_mul]; omega

theorem PV.loadSub {P : Program} {e : Env} {l : List (Nat × Obj)} {H : Hp} {dst : Option Tmp} {ty : TypeId} {pos : String} {after : Array Edge} {gd : Option (Nat × Bool)} {t : TypeId} [h : IsOne P t] {x : Operand} {b o f : Nat} {vs : List Value} {v : Value}
    (hx : evE e x = some (.pointer (some ⟨b, o + f, none⟩))) (hs : SubC H b o vs) (hv : vs[f]? = some v) : PV P e l H ⟨dst, .load t x, ty, pos, after, gd⟩ v := by
  obtain ⟨cs, t', fz, h1, h2⟩ := hs
  refine PV.load1 hx (.fro h1) ?_
  have hf := (List.getElem?_eq_some_iff.1 hv).1
  rw [← h2, List.getElem?_take, if_pos hf, List.getElem?_drop] at hv
  exact hv
theorem PV.loadSub0 {P : Program} {e : Env} {l : List (Nat × Obj)} {H : Hp} {dst : Option Tmp} {ty : TypeId} {pos : String} {after : Array Edge} {gd : Option (Nat × Bool)} {t : TypeId} [h : IsOne P t] {x : Operand} {b o : Nat} {v : Value}
    (hx : evE e x = some (.pointer (some ⟨b, o, none⟩))) (hs : SubC H b o [v]) : PV P e l H ⟨dst, .load t x, ty, pos, after, gd⟩ v :=
  PV.loadSub (f := 0) (by simpa using hx) hs rfl
theorem PV.loadSubAll {P : Program} {e : Env} {l : List (Nat × Obj)} {H : Hp} {dst : Option Tmp} {ty : TypeId} {pos : String} {after : Array Edge} {gd : Option (Nat × Bool)} {t : TypeId} {n : Nat} [h : IsAgg P t n] {x : Operand} {b o : Nat} {vs : List Value}
    (hx : evE e x = some (.pointer (some ⟨b, o, none⟩))) (hs : SubC H b o vs) (hn : Nat.beq vs.length n = true) : PV P e l H ⟨dst, .load t x, ty, pos, after, gd⟩ (.agg vs.toArray) := by
  obtain ⟨cs, t', fz, h1, h2⟩ := hs
  have hl := Nat.eq_of_beq_eq_true hn
  rw [hl] at h2
  exact PV.loadAgg hx (.fro h1) h2 hl

/-- A slice of the walk's own is given up for writing. -/
theorem Vec.freeze {P : Program} {X : Cx} {e : Env} {l : List (Nat × Obj)} {H : Hp} {D : List Deferred} {k : List It} {el sz : Nat} {v : Value} {lv : List (Nat × Obj)} {n : Nat} {xs : List Value} (hv : Vec el sz v lv n xs)
    (h : ∀ H', H.le H' → SlR H' sz v n xs → T P X e l H' D k) : T P X e (lv ++ l) H D k := by
  rcases hv with ⟨hl, ⟨⟨ad, rfl⟩, rfl, rfl⟩ | ⟨b, cap, cs, rfl, rfl, h1, h2, h3, h4⟩⟩
  · exact h H (Hp.le.refl _) ⟨hl, .inl ⟨⟨_, _, rfl⟩, rfl⟩⟩
  · refine T.mk fun a w ha hw => ?_
    have hn := (hw.own _ List.mem_cons_self).2.1
    exact (h _ (Hp.le_put hn) ⟨hl, .inr ⟨b, 0, cap, cs, el, (0, 0), rfl, Hp.put_same, by simpa using h4, h1⟩⟩).get a w ha (Wd.freeze hw)
theorem Lv.weak {P : Program} {X : Cx} {fn : Func} {R : Ending → World → Prop} {e : Env} {l l' : List (Nat × Obj)} {H : Hp} {D : List Deferred} (hl : List.Sublist l' l) (h : Lv P X fn R e l' H D) : Lv P X fn R e l H D :=
  Lv.mk fun D0 a w ha hw => h.get D0 a w ha (hw.sub hl)
theorem Vec.freezeLv {P : Program} {X : Cx} {fn : Func} {R : Ending → World → Prop} {e : Env} {l l' : List (Nat × Obj)} {H : Hp} {D : List Deferred} {el sz : Nat} {v : Value} {lv : List (Nat × Obj)} {n : Nat} {xs : List Value} (hv : Vec el sz v lv n xs)
    (hsub : List.Sublist (lv ++ l') l) (h : ∀ H', H.le H' → SlR H' sz v n xs → Lv P X fn R e l' H' D) : Lv P X fn R e l H D := by
  refine Lv.weak hsub ?_
  rcases hv with ⟨hl, ⟨⟨ad, rfl⟩, rfl, rfl⟩ | ⟨b, cap, cs, rfl, rfl, h1, h2, h3, h4⟩⟩
  · exact h H (Hp.le.refl _) ⟨hl, .inl ⟨⟨_, _, rfl⟩, rfl⟩⟩
  · refine Lv.mk fun D0 a w ha hw => ?_
    have hn := (hw.own _ List.mem_cons_self).2.1
    exact (h _ (Hp.le_put hn) ⟨hl, .inr ⟨b, 0, cap, cs, el, (0, 0), rfl, Hp.put_same, by simpa using h4, h1⟩⟩).get D0 a w ha (Wd.freeze hw)

theorem Vec.src {P : Program} {H : Hp} {el sz : Nat} {v : Value} {lv : List (Nat × Obj)} (al : List (Nat × Obj)) {bl : List (Nat × Obj)} {n : Nat} {xs : List Value} (hv : Vec el sz v lv n xs) : Src P (al ++ (lv ++ bl)) H sz v n xs := by
  rcases hv with ⟨hl, ⟨⟨ad, rfl⟩, rfl, rfl⟩ | ⟨b, cap, cs, rfl, rfl, h1, h2, h3, h4⟩⟩
  · have : xs = [] := List.eq_nil_of_length_eq_zero (by simpa using hl)
    subst this; exact Src.empty
  · have hm : (b, Obj.cells (List.toArray cs) el (0, 0)) ∈ al ++ ([(b, Obj.cells (List.toArray cs) el (0, 0))] ++ bl) := by simp
    exact Src.cells (.own hm) (by simpa using h4) hl

theorem Vec.srcE {P : Program} {H : Hp} {el sz : Nat} {v : Value} {lv : List (Nat × Obj)} (al : List (Nat × Obj)) {n : Nat} {xs : List Value} (hv : Vec el sz v lv n xs) : Src P (al ++ lv) H sz v n xs := by
  have := Vec.src (P := P) (H := H) al (bl := []) hv
  rwa [List.append_nil] at this

/-! ### elements of a slice of the walk's own -/
section
variable {P : Program} {X : Cx} {e : Env} {l : List (Nat × Obj)} {H : Hp} {D : List Deferred} {k : List It}
variable {dst : Option Tmp} {ty : TypeId} {pos : String} {after : Array Edge} {gd : Option (Nat × Bool)} {all : Array Oper} {rest : List Oper}
theorem Vec.ptr {el sz : Nat} {v : Value} {lv : List (Nat × Obj)} {n : Nat} {xs : List Value} (h : Vec el sz v lv n xs) (hn : 0 < n) : ∃ b cap, v = .slice (some ⟨b, 0, none⟩) n cap := by
  rcases h.2 with ⟨_, _, rfl⟩ | ⟨b, cap, cs, rfl, _⟩
  · omega
  · exact ⟨b, cap, rfl⟩
theorem Vec.row {el sz b n m cap : Nat} {lv : List (Nat × Obj)} {xs : List Value} (h : Vec el sz (.slice (some ⟨b, 0, none⟩) m cap) lv n xs) (hn : xs ≠ []) : m = n ∧ n ≤ cap ∧ cap ≤ maxLen ∧ ∃ tl, lv = [(b, .cells (xs ++ tl).toArray el (0, 0))] ∧ (xs ++ tl).length = cap * sz := by
  rcases h.2 with ⟨h', _, h0⟩ | ⟨b', cap', cs, h', rfl, h1, h2, h3, h4⟩
  · exact absurd (List.eq_nil_of_length_eq_zero (by rw [h.1, h0, Nat.zero_mul])) hn
  · injection h' with e1 e2 e3
    injection e1 with e1
    injection e1 with e1
    subst e1 e2 e3
    refine ⟨rfl, h1, h2, cs.drop (m * sz), ?_, ?_⟩
    · rw [← h4, List.take_append_drop]
    · rw [← h4, List.take_append_drop, h3]
theorem PV.loadVec {lv : List (Nat × Obj)} {t : TypeId} [h : IsOne P t] {x : Operand} {el sz b o n m cap : Nat} {xs : List Value} {v : Value}
    (hx : evE e x = some (.pointer (some ⟨b, o, none⟩))) (hv : Vec el sz (.slice (some ⟨b, 0, none⟩) m cap) lv n xs) (hs : List.Sublist lv l) (hc : xs[o]? = some v) : PV P e l H ⟨dst, .load t x, ty, pos, after, gd⟩ v := by
  obtain ⟨_, _, _, tl, rfl, _⟩ := hv.row (by rintro rfl; simp at hc)
  have hm : (b, Obj.cells (xs ++ tl).toArray el (0, 0)) ∈ l := hs.subset List.mem_cons_self
  refine PV.load1 hx (.own hm) ?_
  rw [List.getElem?_append_left (List.getElem?_eq_some_iff.1 hc).1]; exact hc
theorem T.storeVec {t : TypeId} [ht : IsOne P t] {x y : Operand} {v : Value} {lv : List (Nat × Obj)} (al : List (Nat × Obj)) {bl : List (Nat × Obj)} {el sz b o n m cap : Nat} {xs : List Value} (hw : Wanted e all ⟨none, .store t x y, ty, pos, after, gd⟩)
    (hx : evE e x = some (.pointer (some ⟨b, o, none⟩))) (hy : evE e y = some v) (h1 : v.oneCell' = true) (hv : Vec el sz (.slice (some ⟨b, 0, none⟩) m cap) lv n xs) (ho : o < xs.length)
    (h : ∀ lv', Vec el sz (.slice (some ⟨b, 0, none⟩) m cap) lv' n (xs.set o v) → T P X e (al ++ (lv' ++ bl)) H D (.ops all rest :: k)) : T P X e (al ++ (lv ++ bl)) H D (.ops all (⟨none, .store t x y, ty, pos, after, gd⟩ :: rest) :: k) := by
  obtain ⟨rfl, r1, r2, tl, rfl, r3⟩ := hv.row (by rintro rfl; simp at ho)
  have hs : Splice (xs ++ tl) o [v] (xs.set o v ++ tl) := by
    have : ∀ (xs : List Value) (o : Nat), o < xs.length → Splice (xs ++ tl) o [v] (xs.set o v ++ tl) := by
      intro xs
      induction xs with
      | nil => intro o h; simp at h
      | cons u us ih =>
        intro o h
        cases o with
        | zero => exact .cons .nil
        | succ o => exact .skip (ih o (by simpa using h))
    exact this xs o ho
  refine T.store1 hw hx hy h1 (Upd.app (x := al) (Upd.head (l := bl))) hs ?_
  refine h [(b, .cells (xs.set o v ++ tl).toArray el (0, 0))] ⟨by rw [List.length_set]; exact hv.1, .inr ⟨b, cap, xs.set o v ++ tl, rfl, rfl, r1, r2, by rw [← r3]; simp, ?_⟩⟩
  have hl : (xs.set o v).length = m * sz := by rw [List.length_set]; exact hv.1
  rw [← hl, List.take_left]
theorem T.storeVecE {t : TypeId} [ht : IsOne P t] {x y : Operand} {v : Value} {lv : List (Nat × Obj)} (al : List (Nat × Obj)) {el sz b o n m cap : Nat} {xs : List Value} (hw : Wanted e all ⟨none, .store t x y, ty, pos, after, gd⟩)
    (hx : evE e x = some (.pointer (some ⟨b, o, none⟩))) (hy : evE e y = some v) (h1 : v.oneCell' = true) (hv : Vec el sz (.slice (some ⟨b, 0, none⟩) m cap) lv n xs) (ho : o < xs.length)
    (h : ∀ lv', Vec el sz (.slice (some ⟨b, 0, none⟩) m cap) lv' n (xs.set o v) → T P X e (al ++ lv') H D (.ops all rest :: k)) : T P X e (al ++ lv) H D (.ops all (⟨none, .store t x y, ty, pos, after, gd⟩ :: rest) :: k) := by
  have := T.storeVec (X := X) (D := D) (k := k) (rest := rest) (ty := ty) (H := H) al (bl := []) hw hx hy h1 hv ho (fun lv' h2 => by rw [List.append_nil]; exact h lv' h2)
  rwa [List.append_nil] at this
end

theorem run_forBytes {P : Program} {w : World} (F : Value → ByteArray → Sem (ForInStep ByteArray)) (hF : ∀ (n : Int) (s : ByteArray), F (.int .u8 n) s = pure (.yield (s.push (UInt8.ofNat n.toNat)))) : ∀ (bs : List UInt8) (s : ByteArray),
    (forIn (bytesV bs) s F).run P w = .ok ⟨s.data ++ bs.toArray⟩ w
  | [], s => by cases s; simp [bytesV]
  | b :: bs, s => by
    have h1 : bytesV (b :: bs) = .int .u8 (b.toNat : Int) :: bytesV bs := rfl
    rw [h1, List.forIn_cons, hF]
    simp
    rw [run_forBytes F hF bs]
    cases s with
    | mk d => simp [ByteArray.push]

theorem PV.bytesStr {P : Program} {e : Env} {l : List (Nat × Obj)} {H : Hp} {dst : Option Tmp} {ty : TypeId} {pos : String} {after : Array Edge} {gd : Option (Nat × Bool)} {s t el sz : Nat} [hs : SlOf P s el sz] [hk : IntT P el .u8] [ht : StrT P t] {x : Operand} {v : Value} {n : Nat} {bs : List UInt8}
    (hx : evE e x = some v) (hsrc : Src P l H 1 v n (bytesV bs)) (hv : ∃ ad cap, v = .slice ad n cap) : PV P e l H ⟨dst, .convert s t x, ty, pos, after, gd⟩ (.string ⟨bs.toArray⟩) := PV.mk fun X D a w ha hw => by
  obtain ⟨ad, cap, rfl⟩ := hv
  have hf := hsrc.2.2 X w hw
  have hl := hsrc.1
  simp [execOp, ha.eval hx, convert, run_underlying hs.h, run_underlying ht.h, run_underlying hk.h, Conv.bytesToString]
  cases ad with
  | none =>
    simp [Builtin.firstCells] at hf
    have : bs = [] := by
      cases bs with
      | nil => rfl
      | cons b bs => simp [bytesV] at hf
    subst this; simp; rfl
  | some ad =>
    simp [Builtin.firstCells] at hf
    simp [hf]
    rw [run_forBytes _ (fun n s => rfl)]
    simp

end Go.Proofs.YtecogbhbkccblaaGreatDoor
namespace Go.Proofs.YtecogbhbkccblaaGreatDoor
open Go.RowKit

/-- The parts of a walk's state that an iterator is handed on. -/
structure X0 where
  w1 : World
  H0 : Hp
  Pt : Nat → Prop
def X0.cx (x : X0) (ro : Option Nat) (N : Nat) (Q : Post) : Cx := { ro := ro, N := N, w1 := x.w1, H0 := x.H0, Pt := x.Pt, Q := Q }
def Cx.x0 (X : Cx) : X0 := ⟨X.w1, X.H0, X.Pt⟩
/-- The state of memory does not hang on where the walk stands. -/
theorem Wd.re {X Y : Cx} {l : List (Nat × Obj)} {H : Hp} {w : World} (h : Wd X l H w) (h1 : Y.w1 = X.w1) (h2 : Y.H0 = X.H0) (h3 : Y.Pt = X.Pt) : Wd Y l H w :=
  ⟨by rw [h1, h3]; exact h.own, h.nd, h.fro, by rw [h1, h3]; exact h.keep, by rw [h2]; exact h.le, by rw [h1, h2, h3]; exact h.ext⟩
abbrev X0.wd (x : X0) (l : List (Nat × Obj)) (H : Hp) (w : World) : Prop := Wd (x.cx none 0 (fun _ _ _ => False)) l H w

/-- What a call of yield does for the iterator. -/
def YieldOk (P : Program) {α : Type} (enc : α → List Value) (x0 : X0) (L : Nat) (I : Nat → List (Nat × Obj) → Hp → Prop) (Ix : List (Nat × Obj) → Hp → Prop) (xs : List α) : Prop :=
  ∀ k x, xs[k]? = some x → ∀ lc H, I k lc H → ∀ li w, x0.wd (li ++ lc) H w →
    YieldAt Fence.wide 0 P L (enc x).toArray w fun en w' => ∃ lc' H', H.le H' ∧ x0.wd (li ++ lc') H' w' ∧
      ((en = .returned (.bool true) ∧ I (k + 1) lc' H') ∨ (en = .returned (.bool false) ∧ Ix lc' H'))

/-- AN ITERATOR's CONTRACT: called with a yield, it yields xs in order till it is told to stop. -/
def Iter (P : Program) (gf : FuncId) (cap : List Value) (H : Hp) {α : Type} (xs : List α) (enc : α → List Value) : Prop :=
  ∀ (x0 : X0) (L : Nat) (I : Nat → List (Nat × Obj) → Hp → Prop) (Ix : List (Nat × Obj) → Hp → Prop), YieldOk P enc x0 L I Ix xs →
    ∀ lc Hc w, I 0 lc Hc → H.le Hc → x0.wd lc Hc w →
      CallsIn Fence.wide 0 P gf (.func (.yield L) #[] #[] :: cap).toArray w fun en w' => ∃ v lc' Hc', en = .returned v ∧ Hc.le Hc' ∧ x0.wd lc' Hc' w' ∧ (I xs.length lc' Hc' ∨ Ix lc' Hc')
section
variable {P : Program} {X : Cx} {e : Env} {l : List (Nat × Obj)} {H : Hp} {D : List Deferred} {k : List It}
variable {ty : TypeId} {pos : String} {after : Array Edge} {gd : Option (Nat × Bool)} {all : Array Oper} {rest : List Oper}

/-- The walk of an iterator's own body. -/
def itX (P : Program) (fn : Func) (x0 : X0) (Hc : Hp) (F : List (Nat × Obj) → Hp → Prop) : Cx :=
  x0.cx none fn.ntmps (bodyPostM Fence.wide 0 P fn (fun en w' => ∃ v lc' Hc', en = .returned v ∧ Hc.le Hc' ∧ x0.wd lc' Hc' w' ∧ F lc' Hc'))
theorem Iter.of_T {gf : FuncId} {fn : Func} {c : Code} {cap : List Value} {α : Type} {xs : List α} {enc : α → List Value} (hf : P.funcs[gf]? = some fn) (hb : fn.body = some c) (hs : Nat.ble (cap.length + 1) fn.ntmps = true)
    (h : ∀ (x0 : X0) (L : Nat) (I : Nat → List (Nat × Obj) → Hp → Prop) (Ix : List (Nat × Obj) → Hp → Prop), YieldOk P enc x0 L I Ix xs → ∀ lc Hc, I 0 lc Hc → H.le Hc →
      T P (itX P fn x0 Hc (fun lc' H' => I xs.length lc' H' ∨ Ix lc' H')) (argE 0 (.func (.yield L) #[] #[] :: cap)) lc Hc [] [.code c]) : Iter P gf cap H xs enc := fun x0 L I Ix hY lc Hc w h0 hle hw => by
  refine callsIn_of_wp_marks hf hb trivial ?_
  have hle' : cap.length + 1 ≤ fn.ntmps := Nat.le_of_ble_eq_true hs
  have := (h x0 L I Ix hY lc Hc h0 hle).get { tmps := (Value.func (.yield L) #[] #[] :: cap).toArray ++ Array.replicate (fn.ntmps - (Value.func (.yield L) #[] #[] :: cap).toArray.size) undef, defers := [] } w ⟨by simp [itX, X0.cx]; omega, fun i v hi => ?_, rfl⟩ (hw.re rfl rfl rfl)
  · exact this
  · obtain ⟨_, h2⟩ := argE_get _ 0 i v hi
    rw [Nat.sub_zero] at h2
    have hlt := (List.getElem?_eq_some_iff.1 h2).1
    rw [Array.getElem?_append_left (by simpa using hlt)]
    simpa using h2
theorem T.retI {fn : Func} {x0 : X0} {Hc : Hp} {F : List (Nat × Obj) → Hp → Prop} (h0 : fn.results = #[]) (lc : List (Nat × Obj)) (hl : List.Sublist lc l) (hle : Hc.le H) (hF : F lc H) : T P (itX P fn x0 Hc F) e l H [] (.code .ret :: k) :=
  T.ret fun a w ha hw => by
    show LeavesInM _ _ _ _ _ _ a.defers _ _
    rw [ha.dfr]
    exact ⟨_, results_none h0 _ _ _, _, lc, H, rfl, hle, (hw.sub hl).re rfl rfl rfl, hF⟩
theorem T.fallI {fn : Func} {x0 : X0} {Hc : Hp} {F : List (Nat × Obj) → Hp → Prop} (h0 : fn.results = #[]) (lc : List (Nat × Obj)) (hl : List.Sublist lc l) (hle : Hc.le H) (hF : F lc H) : T P (itX P fn x0 Hc F) e l H [] [] :=
  T.fall fun a w ha hw => by
    show LeavesInM _ _ _ _ _ _ a.defers _ _
    rw [ha.dfr]
    exact ⟨_, results_none h0 _ _ _, _, lc, H, rfl, hle, (hw.sub hl).re rfl rfl rfl, hF⟩

/-- A call of yield in an iterator's body. -/
theorem T.yield {fn : Func} {x0 : X0} {Hc0 : Hp} {F : List (Nat × Obj) → Hp → Prop} {α : Type} {enc : α → List Value} {L d : Nat} {I : Nat → List (Nat × Obj) → Hp → Prop} {Ix : List (Nat × Obj) → Hp → Prop} {xs : List α}
    {y : Operand} {ops : List Operand} {ts : Array TypeId} (hY : YieldOk P enc x0 L I Ix xs) (hw : Wanted e all ⟨some d, .call ⟨.value y, ops.toArray, ts⟩, ty, pos, after, gd⟩) (hN : Nat.blt d (itX P fn x0 Hc0 F).N = true)
    (hx : evE e y = some (.func (.yield L) #[] #[])) {n : Nat} {x : α} (hk : xs[n]? = some x) (hv : evL e ops = some (enc x)) {lc : List (Nat × Obj)} (li : List (Nat × Obj)) (hI : I n lc H)
    (ht : ∀ lc' H', H.le H' → I (n + 1) lc' H' → T P (itX P fn x0 Hc0 F) ((d, .bool true) :: e) (li ++ lc') H' D (.ops all rest :: k))
    (hf : ∀ lc' H', H.le H' → Ix lc' H' → T P (itX P fn x0 Hc0 F) ((d, .bool false) :: e) (li ++ lc') H' D (.ops all rest :: k)) :
    T P (itX P fn x0 Hc0 F) e (li ++ lc) H D (.ops all (⟨some d, .call ⟨.value y, ops.toArray, ts⟩, ty, pos, after, gd⟩ :: rest) :: k) := T.mk fun a w ha hw' => by
  refine wpList_cons (hw.get _ D a ha) ?_
  obtain ⟨f, tmps, assign, body, hy, hR⟩ := hY n x hk lc H hI li w (hw'.re rfl rfl rfl)
  have hrun : (execOp a.eval ⟨some d, .call ⟨.value y, ops.toArray, ts⟩, ty, pos, after, gd⟩).run P w = .ok (.round L f tmps assign body) w := by
    have := evL_map ha ops _ hv
    simp [execOp, resolve, ha.eval hx, Deferred.ofValue, invoke, List.map_toArray, this]
    simpa using hy
  rw [run_semAt hrun (fun _ => by simp), Oper.uponIn_round]
  refine ⟨fun hd => by simp [Fw, Fence.wide] at hd, ?_⟩
  have hR' : RoundIn (Fw (itX P fn x0 Hc0 F).ro) 0 P L f tmps assign body w _ := hR
  refine hR'.mono ?_
  rintro en w' ⟨lc', H', hle, hwd, ⟨rfl, hI'⟩ | ⟨rfl, hI'⟩⟩
  · exact (ht lc' H' hle hI').get _ w' (ha.put (by simpa using hN) _) (hwd.re rfl rfl rfl)
  · exact (hf lc' H' hle hI').get _ w' (ha.put (by simpa using hN) _) (hwd.re rfl rfl rfl)

/-! ### the statement -/
/-- How a round may end. 'Jx c': left by c (return, break ..). -/
def roundQ (x0 : X0) (L : Nat) (rec : LoopState → Option Code → Loop) (lo : List (Nat × Obj)) (H : Hp) (I' : List (Nat × Obj) → Hp → Prop) (Jx : Code → List (Nat × Obj) → Hp → Prop) : Post
  | .normal, _, w => ∃ lk H', H.le H' ∧ x0.wd (lk ++ (L, .loop (rec .busy none)) :: lo) H' w ∧ I' lk H'
  | .ret, _, w => ∃ lk H', H.le H' ∧ x0.wd (lk ++ (L, .loop (rec .busy none)) :: lo) H' w ∧ Jx .ret lk H'
  | .exit id, _, w => ∃ lk H', H.le H' ∧ x0.wd (lk ++ (L, .loop (rec .busy none)) :: lo) H' w ∧ Jx (.exit id) lk H'
  | _, _, _ => False
def rdX (X : Cx) (L : Nat) (rec : LoopState → Option Code → Loop) (lo : List (Nat × Obj)) (H : Hp) (I' : List (Nat × Obj) → Hp → Prop) (Jx : Code → List (Nat × Obj) → Hp → Prop) : Cx :=
  { ro := some L, N := X.N, w1 := X.w1, H0 := X.H0, Pt := X.Pt, Q := roundQ X.x0 L rec lo H I' Jx }
/-- The walk of the assignments to the loop's variables. -/
def asX (X : Cx) (L : Nat) : Cx := { ro := some L, N := X.N, w1 := X.w1, H0 := X.H0, Pt := X.Pt, Q := fun _ _ _ => False }
/-- Between the assignments to the loop's variables and its body the record turns busy. -/
def BeginJ (P : Program) (Xr : Cx) (L : Nat) (body : Code) : Act → World → Prop := fun a w => ∃ w', (Instr.beginRound L).run P w = .ok () w' ∧ wpK P Xr.ro Xr.Q [.code body] .normal a w'
theorem T.begin {L : Nat} {rec : LoopState → Option Code → Loop} (hrec : ∀ s p, (rec s p).state = s ∧ { rec s p with state := .busy } = rec .busy p) {lk lo : List (Nat × Obj)} {I' : List (Nat × Obj) → Hp → Prop} {Jx : Code → List (Nat × Obj) → Hp → Prop} {H1 : Hp} {body : Code}
    (h : T P (rdX X L rec lo H1 I' Jx) e (lk ++ (L, .loop (rec .busy none)) :: lo) H D [.code body]) : T P (asX X L) e (lk ++ (L, .loop (rec .ready none)) :: lo) H D [.done (BeginJ P (rdX X L rec lo H1 I' Jx) L body)] :=
  T.done fun a w ha hw => by
    have hm : (L, Obj.loop (rec .ready none)) ∈ lk ++ (L, Obj.loop (rec .ready none)) :: lo := by simp
    have hl := (hw.own _ hm).1
    have hu : ∀ lk : List (Nat × Obj), Upd (lk ++ (L, Obj.loop (rec .ready none)) :: lo) L (.loop (rec .ready none)) (.loop (rec .busy none)) (lk ++ (L, Obj.loop (rec .busy none)) :: lo) := by
      intro lk
      induction lk with
      | nil => exact Upd.head
      | cons p lk ih => exact Upd.tail ih
    have hb := run_beginRound (P := P) hl (hrec _ _).1
    rw [(hrec .ready none).2] at hb
    exact ⟨_, hb, h.get a _ ⟨ha.size, ha.get, ha.dfr⟩ ((hw.upd (hu lk)).re rfl rfl rfl)⟩

theorem T.roundEnd {L : Nat} {rec : LoopState → Option Code → Loop} {lo : List (Nat × Obj)} {I' : List (Nat × Obj) → Hp → Prop} {Jx : Code → List (Nat × Obj) → Hp → Prop} {H1 : Hp} (lk : List (Nat × Obj))
    (hl : List.Sublist (lk ++ (L, .loop (rec .busy none)) :: lo) l) (hle : H1.le H) (hI : I' lk H) : T P (rdX X L rec lo H1 I' Jx) e l H D [] :=
  T.fall fun a w ha hw => ⟨lk, H, hle, (hw.sub hl).re rfl rfl rfl, hI⟩
theorem T.roundRet {L : Nat} {rec : LoopState → Option Code → Loop} {lo : List (Nat × Obj)} {I' : List (Nat × Obj) → Hp → Prop} {Jx : Code → List (Nat × Obj) → Hp → Prop} {H1 : Hp} (lk : List (Nat × Obj))
    (hl : List.Sublist (lk ++ (L, .loop (rec .busy none)) :: lo) l) (hle : H1.le H) (hI : Jx .ret lk H) : T P (rdX X L rec lo H1 I' Jx) e l H D (.code .ret :: k) :=
  T.ret fun a w ha hw => ⟨lk, H, hle, (hw.sub hl).re rfl rfl rfl, hI⟩
/-- The slots of a round: the loop's own, with the parameters. -/
def zipE : List Tmp → List Value → Env
  | p :: ps, v :: vs => (p, v) :: zipE ps vs
  | _, _ => []
theorem zip_get : ∀ (ps : List Tmp) (vs : List Value) (e : Env) (N : Nat) (t0 : Array Value), t0.size = N → (∀ i v, e.get i = some v → t0[i]? = some v) → (∀ p ∈ ps, p < N) → ps.Nodup →
    ∃ t, ((ps.zip vs).foldl (fun (t : Array Value) (p : Tmp × Value) => t.setIfInBounds p.1 p.2) t0) = t ∧ t.size = N ∧ ∀ (i : Nat) (v : Value), Env.get (zipE ps vs ++ e) i = some v → t[i]? = some v
  | [], vs, e, N, t0, h1, h2, _, _ => ⟨t0, by simp, h1, fun i v h => h2 i v (by simpa [zipE] using h)⟩
  | p :: ps, [], e, N, t0, h1, h2, _, _ => ⟨t0, by simp, h1, fun i v h => h2 i v (by simpa [zipE] using h)⟩
  | p :: ps, v :: vs, e, N, t0, h1, h2, h3, h4 => by
    have hp := h3 p List.mem_cons_self
    have hput : ∀ i u, Env.get ((p, v) :: e) i = some u → (t0.setIfInBounds p v)[i]? = some u := by
      intro i u hi
      rw [Array.getElem?_setIfInBounds]
      simp only [Env.get] at hi
      by_cases e' : i = p
      · subst e'
        rw [Nat.beq_refl] at hi
        simp only [cond_true, Option.some.injEq] at hi
        rw [if_pos rfl, if_pos (by rw [h1]; exact hp), hi]
      · have : Nat.beq i p = false := by rw [Bool.eq_false_iff]; intro hh; exact e' (Nat.eq_of_beq_eq_true hh)
        rw [this] at hi
        rw [if_neg (fun e2 => e' e2.symm)]
        exact h2 i u hi
    obtain ⟨t, ht, hs, hg⟩ := zip_get ps vs ((p, v) :: e) N (t0.setIfInBounds p v) (by simpa using h1) hput (fun q hq => h3 q (List.mem_cons_of_mem _ hq)) (List.nodup_cons.1 h4).2
    refine ⟨t, by simpa using ht, hs, fun i u hi => hg i u ?_⟩
    have hnp : p ∉ ps := (List.nodup_cons.1 h4).1
    have mv : ∀ (ps : List Tmp) (vs : List Value), p ∉ ps → ∀ (i : Nat) (u : Value), Env.get ((p, v) :: (zipE ps vs ++ e)) i = some u → Env.get (zipE ps vs ++ (p, v) :: e) i = some u := by
      intro ps
      induction ps with
      | nil => intro vs _ i u h; simpa [zipE] using h
      | cons q ps ih =>
        intro vs hq i u h
        cases vs with
        | nil => simpa [zipE] using h
        | cons v' vs =>
          have hqp : q ≠ p := fun e1 => hq (by simp [e1])
          simp only [zipE, List.cons_append, Env.get] at h ⊢
          by_cases e1 : i = q
          · subst e1
            have b1 : Nat.beq i p = false := by rw [Bool.eq_false_iff]; intro hh; exact hqp (Nat.eq_of_beq_eq_true hh)
            rw [b1, Nat.beq_refl] at h
            rw [Nat.beq_refl]; exact h
          · have b1 : Nat.beq i q = false := by rw [Bool.eq_false_iff]; intro hh; exact e1 (Nat.eq_of_beq_eq_true hh)
            rw [b1] at h ⊢
            exact ih vs (fun hm => hq (List.mem_cons_of_mem _ hm)) i u (by simpa [Env.get] using h)
    exact mv ps vs hnp i u hi

/-- 'for .. := range g { .. }', at an outermost loop. -/
theorem T.rangeFunc {g : Operand} {ps : List Tmp} {assign body : Code} {gf : FuncId} [hE : Ent P gf] {cap : List Value} {α : Type} {xs : List α} {enc : α → List Value}
    (hro : X.ro = none) (hg : evE e g = some (.func (.func gf) #[] cap.toArray)) (hit : Iter P gf cap H xs enc) (hps : ∀ x, (enc x).length = ps.length) (hpN : ps.all (fun p => Nat.blt p X.N) = true) (hnd : ps.Nodup)
    (I : Nat → List (Nat × Obj) → Hp → Prop) (Jx : Code → List (Nat × Obj) → Hp → Prop) (h0 : I 0 l H)
    (hbody : ∀ n x lk Hk, xs[n]? = some x → I n lk Hk → H.le Hk → ∀ L rec lo, (∀ s p, (rec s p).state = s ∧ { rec s p with state := .busy } = rec .busy p) →
      T P (asX X L) (zipE ps (enc x) ++ e) (lk ++ (L, .loop (rec .ready none)) :: lo) Hk [] [.code assign, .done (BeginJ P (rdX X L rec lo Hk (I (n + 1)) Jx) L body)])
    (hdone : ∀ r lk Hk, H.le Hk → I xs.length lk Hk → T P X e ((r, .deferred (some [])) :: lk) Hk ({ target := .collected r, args := #[] } :: D) k)
    (hjump : ∀ c r lk Hk, H.le Hk → Jx c lk Hk → T P X e ((r, .deferred (some [])) :: lk) Hk ({ target := .collected r, args := #[] } :: D) (.code c :: k)) :
    T P X e l H D (.code (.rangeFunc g ps.toArray assign body) :: k) := T.mk fun a w ha hw => by
  show (Code.rangeFunc g ps.toArray assign body).wpIn (Fw X.ro) 0 P _ a w
  refine wpIn_rangeFunc ?_
  intro fn _
  rw [Fw_round, hro]
  obtain ⟨rec, hrecd⟩ : ∃ rec : LoopState → Option Code → Loop, rec = fun st pe => { state := st, pending := pe, fn, tmps := a.tmps, params := ps.toArray, assign, body, defers := w.heap.size } := ⟨_, rfl⟩
  have hrec : ∀ s p, (rec s p).state = s ∧ { rec s p with state := .busy } = rec .busy p := by intro s p; subst hrecd; exact ⟨rfl, rfl⟩
  have hw1 : Wd X ((w.heap.size + 1, .loop (rec .ready none)) :: (w.heap.size, .deferred (some [])) :: l) H ((w.alloc (.deferred (some []))).alloc (.loop (rec .ready none))) := by
    have := (hw.alloc (.deferred (some []))).alloc (.loop (rec .ready none))
    rw [World.size_alloc] at this
    exact this
  have hL1 : Instr.enterLoop fn a.tmps ps.toArray assign body none = Instr.enterLoop fn a.tmps ps.toArray assign body none := rfl
  have hen := run_enterLoop_outer (P := P) (w := w) fn a.tmps ps.toArray assign body
  have hre : (Loop.mk .ready none fn a.tmps ps.toArray assign body w.heap.size) = rec .ready none := by rw [hrecd]
  rw [hre] at hen
  refine ⟨w.heap.size + 1, [{ target := .collected w.heap.size, args := #[] }], (w.alloc (.deferred (some []))).alloc (.loop (rec .ready none)), { target := .fn (.func gf) cap.toArray, args := #[.func (.yield (w.heap.size + 1)) #[] #[]] }, (w.alloc (.deferred (some []))).alloc (.loop (rec .ready none)), gf,
    #[.func (.yield (w.heap.size + 1)) #[] #[]] ++ cap.toArray, (w.alloc (.deferred (some []))).alloc (.loop (rec .ready none)), hen, ?_, fun _ _ => trivial, ?_, fun hd => by simp [Fw, Fence.wide] at hd, ?_⟩
  · simp only [resolve, rangeCall, ha.eval hg, Deferred.ofValue]
    simp [Act.eval]
  · have := hE.h (#[.func (.yield (w.heap.size + 1)) #[] #[]] ++ cap.toArray) ((w.alloc (.deferred (some []))).alloc (.loop (rec .ready none)))
    simpa [invoke] using this
  · -- the iterator
    have hargs : (#[.func (.yield (w.heap.size + 1)) #[] #[]] ++ cap.toArray : Array Value) = (.func (.yield (w.heap.size + 1)) #[] #[] :: cap).toArray := by simp
    rw [hargs]
    have hW1 : X.x0.wd (l ++ (w.heap.size + 1, .loop (rec .ready none)) :: [(w.heap.size, .deferred (some []))]) H ((w.alloc (.deferred (some []))).alloc (.loop (rec .ready none))) := by
      refine (hw1.perm ?_).re rfl rfl rfl
      exact (List.perm_append_comm (l₁ := l) (l₂ := [(w.heap.size + 1, .loop (rec .ready none)), (w.heap.size, .deferred (some []))]))
    have hupd : ∀ (lk lo : List (Nat × Obj)) (o o' : Obj), Upd (lk ++ (w.heap.size + 1, o) :: lo) (w.heap.size + 1) o o' (lk ++ (w.heap.size + 1, o') :: lo) := by
      intro lk lo o o'
      induction lk with
      | nil => exact Upd.head
      | cons p lk ih => exact Upd.tail ih
    refine (hit X.x0 (w.heap.size + 1)
      (fun n lc Hc => ∃ lk, lc = lk ++ (w.heap.size + 1, .loop (rec .ready none)) :: [(w.heap.size, .deferred (some []))] ∧ I n lk Hc ∧ H.le Hc)
      (fun lc Hc => ∃ c lk, lc = lk ++ (w.heap.size + 1, .loop (rec .done (some c))) :: [(w.heap.size, .deferred (some []))] ∧ Jx c lk Hc ∧ H.le Hc)
      (fun n x hx lc Hc hI li wy hwy => ?_)
      _ H _ ⟨l, rfl, h0, Hp.le.refl _⟩ (Hp.le.refl _) hW1).mono ?_
    · obtain ⟨lk, rfl, hI, hle⟩ := hI
      have hmem : (w.heap.size + 1, Obj.loop (rec .ready none)) ∈ li ++ (lk ++ (w.heap.size + 1, Obj.loop (rec .ready none)) :: [(w.heap.size, Obj.deferred (some []))]) := by simp
      have hl := (hwy.own _ hmem).1
      simp only at hl
      have hy := run_yield (P := P) (args := (enc x).toArray) hl (by rw [hrecd]; simp [hps])
      obtain ⟨t, ht, hts, htg⟩ := zip_get ps (enc x) e X.N a.tmps ha.size ha.get (fun p hp => by simpa using List.all_eq_true.1 hpN p hp) hnd
      have htmp : ((rec .ready none).params.zip (enc x).toArray).foldl (fun tmps (t, a) => tmps.setIfInBounds t a) (rec .ready none).tmps = t := by
        rw [← ht, hrecd, ← Array.foldl_toList]; simp
      rw [htmp] at hy
      have hfn : (rec .ready none).fn = fn ∧ (rec .ready none).assign = assign ∧ (rec .ready none).body = body := by rw [hrecd]; exact ⟨rfl, rfl, rfl⟩
      rw [hfn.1, hfn.2.1, hfn.2.2] at hy
      refine ⟨fn, t, assign, body, hy, ?_⟩
      have hp1 : (lk ++ (w.heap.size + 1, Obj.loop (rec .ready none)) :: (li ++ [(w.heap.size, Obj.deferred (some []))])).Perm (li ++ (lk ++ (w.heap.size + 1, Obj.loop (rec .ready none)) :: [(w.heap.size, Obj.deferred (some []))])) := by
        refine List.Perm.trans ?_ List.perm_append_comm
        rw [List.append_assoc]
        refine List.Perm.append_left _ ?_
        rw [List.cons_append]
        refine List.Perm.cons _ ?_
        exact List.perm_append_comm
      have hT := (hbody n x lk Hc hx hI hle (w.heap.size + 1) rec (li ++ [(w.heap.size, Obj.deferred (some ([] : List Deferred)))]) hrec).get { tmps := t, defers := [] } wy ⟨hts, htg, rfl⟩ ((hwy.perm hp1).re rfl rfl rfl)
      have fin : ∀ (jump : Option Code) (w3 : World) (lk' : List (Nat × Obj)) (H' : Hp), X.x0.wd (lk' ++ (w.heap.size + 1, .loop (rec .busy none)) :: (li ++ [(w.heap.size, .deferred (some []))])) H' w3 →
          ∃ w4, (Instr.endRound (w.heap.size + 1) jump).run P w3 = .ok (.bool jump.isNone) w4 ∧ X.x0.wd (li ++ (lk' ++ (w.heap.size + 1, .loop (rec (if jump.isNone then .ready else .done) jump)) :: [(w.heap.size, .deferred (some []))])) H' w4 := by
        intro jump w3 lk' H' hwd
        have hm : (w.heap.size + 1, Obj.loop (rec .busy none)) ∈ lk' ++ (w.heap.size + 1, Obj.loop (rec .busy none)) :: (li ++ [(w.heap.size, Obj.deferred (some []))]) := by simp
        have hl3 := (hwd.own _ hm).1
        simp only at hl3
        have hend := run_endRound (P := P) jump hl3
        have hrr : ({ rec .busy none with state := if jump.isNone then .ready else .done, pending := jump } : Loop) = rec (if jump.isNone then .ready else .done) jump := by rw [hrecd]
        rw [hrr] at hend
        refine ⟨_, hend, (hwd.upd (hupd lk' _ _ (.loop (rec (if jump.isNone then .ready else .done) jump)))).perm ?_⟩
        refine List.Perm.trans List.perm_append_comm ?_
        rw [List.append_assoc]
        refine List.Perm.append_left _ ?_
        rw [List.cons_append]
        refine List.Perm.cons _ ?_
        exact List.perm_append_comm
      refine roundIn_of_wpIn (F := Fence.wide) (n := 0) trivial (wpIn_mono (show assign.wpIn _ _ _ (wpK P (some (w.heap.size + 1)) (fun _ _ _ => False) [.done (BeginJ P (rdX X (w.heap.size + 1) rec (li ++ [(w.heap.size, .deferred (some []))]) Hc (I (n + 1)) Jx) (w.heap.size + 1) body)]) _ _ from hT) ?_)
      intro en a1 w2 he
      cases en with
      | normal =>
        obtain ⟨w3, hb, hbd⟩ := he
        refine ⟨w3, hb, wpIn_mono (show body.wpIn _ _ _ (wpK P (some (w.heap.size + 1)) _ []) _ _ from hbd) ?_⟩
        intro e2 a2 w4 hq2
        cases e2 with
        | normal =>
          obtain ⟨lk', H', hle', hwd, hI'⟩ := hq2
          obtain ⟨w5, h5, h6⟩ := fin none w4 lk' H' hwd
          exact ⟨_, w5, h5, _, H', hle', h6, .inl ⟨rfl, lk', rfl, hI', hle.trans hle'⟩⟩
        | ret =>
          obtain ⟨lk', H', hle', hwd, hI'⟩ := hq2
          obtain ⟨w5, h5, h6⟩ := fin (some .ret) w4 lk' H' hwd
          exact ⟨_, w5, h5, _, H', hle', h6, .inr ⟨rfl, .ret, lk', rfl, hI', hle.trans hle'⟩⟩
        | exit id =>
          obtain ⟨lk', H', hle', hwd, hI'⟩ := hq2
          obtain ⟨w5, h5, h6⟩ := fin (some (.exit id)) w4 lk' H' hwd
          exact ⟨_, w5, h5, _, H', hle', h6, .inr ⟨rfl, .exit id, lk', rfl, hI', hle.trans hle'⟩⟩
        | goto t => exact hq2.elim
        | panic c => exact hq2.elim
        | outgrown => exact hq2.elim
      | exit id => exact he
      | goto l => exact he
      | ret => exact he
      | panic c => exact he
      | outgrown => exact he
    · -- behind it
      rintro en w2 ⟨v, lc, Hc, rfl, hle, hwd, ⟨lk, rfl, hI, hle2⟩ | ⟨c, lk, rfl, hI, hle2⟩⟩
      · have hm : (w.heap.size + 1, Obj.loop (rec .ready none)) ∈ lk ++ (w.heap.size + 1, Obj.loop (rec .ready none)) :: [(w.heap.size, Obj.deferred (some []))] := by simp
        have hl3 := (hwd.own _ hm).1
        simp only at hl3
        have hend := run_endLoop (P := P) hl3 (by rw [(hrec .ready none).1]; exact fun h => by cases h)
        replace hend : (Instr.endLoop (w.heap.size + 1)).run P w2 = .ok none (w2.putObj (w.heap.size + 1) (.loop (rec .exhausted none))) := by rw [hend, hrecd]
        refine ⟨none, _, hend, ?_⟩
        have hw9 := hwd.upd (hupd lk [(w.heap.size, .deferred (some []))] _ (.loop (rec .exhausted none)))
        have hw10 : X.x0.wd ((w.heap.size, Obj.deferred (some [])) :: lk) Hc _ := (hw9.perm (List.perm_append_comm (l₁ := [(w.heap.size + 1, Obj.loop (rec .exhausted none)), (w.heap.size, Obj.deferred (some []))]) (l₂ := lk))).sub (.cons _ (List.Sublist.refl _))
        have hT := (hdone w.heap.size lk Hc hle2 hI).get { a with defers := [{ target := .collected w.heap.size, args := #[] }] ++ a.defers } _ ⟨ha.size, ha.get, by simp [ha.dfr]⟩ (hw10.re rfl rfl rfl)
        rw [hro] at hT; exact hT
      · have hm : (w.heap.size + 1, Obj.loop (rec .done (some c))) ∈ lk ++ (w.heap.size + 1, Obj.loop (rec .done (some c))) :: [(w.heap.size, Obj.deferred (some []))] := by simp
        have hl3 := (hwd.own _ hm).1
        simp only at hl3
        have hend := run_endLoop (P := P) hl3 (by rw [(hrec .done (some c)).1]; exact fun h => by cases h)
        replace hend : (Instr.endLoop (w.heap.size + 1)).run P w2 = .ok (some c) (w2.putObj (w.heap.size + 1) (.loop (rec .exhausted (some c)))) := by rw [hend, hrecd]
        refine ⟨some c, _, hend, ?_⟩
        have hw9 := hwd.upd (hupd lk [(w.heap.size, .deferred (some []))] _ (.loop (rec .exhausted (some c))))
        have hw10 : X.x0.wd ((w.heap.size, Obj.deferred (some [])) :: lk) Hc _ := (hw9.perm (List.perm_append_comm (l₁ := [(w.heap.size + 1, Obj.loop (rec .exhausted (some c))), (w.heap.size, Obj.deferred (some []))]) (l₂ := lk))).sub (.cons _ (List.Sublist.refl _))
        have hT := (hjump c w.heap.size lk Hc hle2 hI).get { a with defers := [{ target := .collected w.heap.size, args := #[] }] ++ a.defers } _ ⟨ha.size, ha.get, by simp [ha.dfr]⟩ (hw10.re rfl rfl rfl)
        rw [hro] at hT; exact hT
end

end Go.Proofs.YtecogbhbkccblaaGreatDoor
namespace Go.Proofs.YtecogbhbkccblaaGreatDoor
open Go.RowKit

class Mixed (P : Program) : Prop where
  h : P.follows .mixedOrders = true

section
variable {P : Program} {ops : Array Oper} {md : Region.Mode} {C : World → Prop} {ro : Option Nat}

theorem wpOpIn_of_qOp {i : Nat} {a : Act} {K : Act → Prop} {K' : Act → World → Prop} {Q' : Post} {w : World} (hC : C w) (h : ∀ a w', C w' → K a → K' a w') (hh : qOp P ops C i K a) : wpOpIn (Fw ro) 0 P ops Q' i K' a w := by
  unfold qOp at hh
  unfold wpOpIn
  split
  · rename_i ho; simp only [ho] at hh; exact h _ _ hC hh
  · rename_i o ho
    simp only [ho] at hh
    split
    · rename_i hw
      simp only [hw, if_true] at hh
      obtain ⟨v, h1, h2⟩ := hh
      refine ⟨fun _ _ => trivial, ?_⟩
      have h3 := h1 w hC
      unfold Oper.quietAt at h3
      cases hr : (execOp a.eval o).run P w with
      | halt x w' => rw [hr] at h3; exact h3.elim
      | ok nx w' =>
        rw [hr] at h3
        have hsem : (∀ d, nx ≠ .defer d) → (o.semAt (Fw ro).round a.eval).run P w = .ok nx w' := fun hd => run_semAt hr hd
        cases nx <;> simp only [Oper.quietUpon] at h3
        case value u =>
          rw [hsem (fun _ => by simp)]
          obtain ⟨e1, e2⟩ := h3
          rw [e1, e2]
          exact h _ _ hC h2
        case skip =>
          rw [hsem (fun _ => by simp)]
          obtain ⟨e1, e2⟩ := h3
          rw [e1, Oper.uponIn_skip, ← e2]
          exact h _ _ hC h2
        case enter f args =>
          rw [hsem (fun _ => by simp)]
          obtain ⟨e1, hc⟩ := h3
          rw [e1]
          refine ⟨fun hd => by simp [Fw, Fence.wide] at hd, ?_⟩
          have hc' : CallsIn (Fw ro) 0 P f args w _ := callsIn_wide.2 hc
          exact hc'.mono fun e w'' ⟨he, hw''⟩ => by subst he; exact h _ _ hw'' h2
    · rename_i hw; simp only [hw] at hh; exact ⟨fun _ _ => trivial, h _ _ hC hh⟩

theorem wpAnyIn_of_quiet {Q : Act → Prop} {Q' : Post} (hQ : ∀ a w, C w → Q a → Q' .normal a w) : ∀ (fuel : Nat) (listed : Array Bool) (a : Act) (w : World), C w →
    wpAnyQ P md ops C Q fuel listed a → wpAnyIn (Fw ro) 0 P md ops Q' fuel listed a w
  | 0, _, _, _, hw, h => ⟨h.1, hQ _ _ hw h.2⟩
  | fuel + 1, _, _, _, hw, h => ⟨fun h0 => hQ _ _ hw (h.1 h0), fun i hi => wpOpIn_of_qOp hw (fun a' w' hw' => wpAnyIn_of_quiet hQ fuel _ a' w' hw') (h.2 i hi)⟩

theorem region_quiet {id : Nat} {Q : Post} {a : Act} {w : World} [hm : Mixed P] {l : List Oper} (hB : Region.lexB .any l.toArray = true) (hC : C w.drew)
    (h : wpQuiet P l.toArray C (fun a' => ∀ w', C w' → Q .normal a' w') l a) : (Code.region id l.toArray true).wpIn (Fw ro) 0 P Q a w := by
  simp only [Region.lexB, Bool.and_eq_true] at hB
  refine wpIn_region_any hm.h (wpAnyIn_of_quiet (C := C) (Q := fun a' => ∀ w', C w' → Q .normal a' w') (fun _ w' hw' h => h w' hw') _ _ _ _ hC ?_)
  have := wpAnyQ_lex (C := C) (md := .any) hB.1 l 0 (Array.replicate l.toArray.size false) a (by simp) (by simpa using hB.2) h
  simpa using this

/-! #### with a tail -/
def wpAnyT (P : Program) (md : Region.Mode) (ops : Array Oper) (C : World → Prop) (n : Nat) (L : Array Bool → Act → Prop) : Nat → Array Bool → Act → Prop
  | 0, listed, a => L listed a
  | f + 1, listed, a => Region.ready md ops listed ≠ [] ∧ ∀ i ∈ Region.ready md ops listed, i < n ∧ qOp P ops C i (wpAnyT P md ops C n L f (listed.setIfInBounds i true)) a

theorem wpAnyIn_of_T {n g : Nat} {L : Array Bool → Act → Prop} {Q' : Post} (hL : ∀ listed a w, C w → L listed a → wpAnyIn (Fw ro) 0 P md ops Q' g listed a w) :
    ∀ (f : Nat) (listed : Array Bool) (a : Act) (w : World), C w → wpAnyT P md ops C n L f listed a → wpAnyIn (Fw ro) 0 P md ops Q' (f + g) listed a w
  | 0, listed, a, w, hw, h => by rw [Nat.zero_add]; exact hL _ _ _ hw h
  | f + 1, listed, a, w, hw, h => by
    rw [show f + 1 + g = (f + g) + 1 by omega]
    exact ⟨fun h0 => absurd h0 h.1, fun i hi => wpOpIn_of_qOp hw (fun a' w' hw' h' => wpAnyIn_of_T hL f _ a' w' hw' h') (h.2 i hi).2⟩

theorem wpAnyT_first {n i : Nat} {oi : Oper} {v : Value} {L : Array Bool → Act → Prop} (hi : ops[i]? = some oi) (hsel : ∀ (j : Nat) (o : Oper) cs b, ops[j]? = some o → o.op ≠ .select cs b)
    (hs : Region.sinkB md ops n = true) (hc : Region.chainB md ops n = true) (hn : n < ops.size) (hin : i < n) (hdone : ∀ listed a, L listed a → ∀ j ∈ Region.ready md ops listed, n ≤ j) :
    ∀ (f : Nat) (listed : Array Bool) (a : Act), HeadInv md ops n listed →
      (∀ j oj, ops[j]? = some oj → j ≠ i → listed.getD j true = false → (∀ e ∈ oj.after, Region.binds md e = true → e.on ≠ i) → oi.apart ops oj = true) →
      i ∈ Region.ready md ops listed → YieldsIn P ops C oi v a →
      wpAnyT P md ops C n L f (listed.setIfInBounds i true) (a.put oi.dst v) → wpAnyT P md ops C n L (f + 1) listed a := by
  intro f
  induction f with
  | zero =>
    intro listed a inv _ hr hy hh
    have hun := (mem_ready.1 hr).1
    refine ⟨fun h => (by rw [h] at hr; cases hr), fun j hj => ?_⟩
    have hjn : j < n := by
      rcases Nat.lt_or_ge j n with h | h
      · exact h
      · exact absurd hj (tail_waits hs hc hn inv _ i rfl hin hun j h)
    refine ⟨hjn, ?_⟩
    by_cases hji : j = i
    · subst hji; exact hy.qOp hi hh
    · have := hdone _ _ hh j (ready_mono hj hji)
      omega
  | succ f ih =>
    intro listed a inv hfree hr hy hh
    have hun := (mem_ready.1 hr).1
    refine ⟨fun h => (by rw [h] at hr; cases hr), fun j hj => ?_⟩
    have hjn : j < n := by
      rcases Nat.lt_or_ge j n with h | h
      · exact h
      · exact absurd hj (tail_waits hs hc hn inv _ i rfl hin hun j h)
    refine ⟨hjn, ?_⟩
    by_cases hji : j = i
    · subst hji; exact hy.qOp hi hh
    · have h1 := (hh.2 j (ready_mono hj hji)).2
      obtain ⟨hjun, oj, hoj, hall⟩ := mem_ready.1 hj
      have hnot : ∀ e ∈ oj.after, Region.binds md e = true → e.on ≠ i := fun e he hb heq => by
        have h1 := hall e he hb
        rw [heq, getD_both hun] at h1
        cases h1
      have h2 := qOp_put hoj (hfree j oj hoj hji hjun hnot) (fun cs b => hsel i oi cs b hi) (fun cs b => hsel j oj cs b hoj) hy h1
      have hfree' : ∀ k ok, ops[k]? = some ok → k ≠ i → (listed.setIfInBounds j true).getD k true = false →
          (∀ e ∈ ok.after, Region.binds md e = true → e.on ≠ i) → oi.apart ops ok = true := fun k ok hk hki hun hno => by
        refine hfree k ok hk hki ?_ hno
        by_cases hjk : j = k
        · subst hjk; exact hjun
        · rw [getD_set_ne true hjk] at hun; exact hun
      refine qOp_mono (fun a' h3 => ih (listed.setIfInBounds j true) a' (inv.set hj hjn) hfree' (ready_mono hr (Ne.symm hji)) h3.1 ?_) h2
      rw [Array.setIfInBounds_comm _ _ hji]
      exact h3.2

theorem wpAnyIn_of_seq {Q' : Post} : ∀ (l : List Oper) (k : Nat) (listed : Array Bool) (a : Act) (w : World), (∀ j, l[j]? = ops[k + j]?) →
    Region.seqB md ops l.length k listed = true → wpListIn (Fw ro) 0 P ops Q' l a w → wpAnyIn (Fw ro) 0 P md ops Q' l.length listed a w
  | [], _, _, _, _, _, hB, h => ⟨by simpa [Region.seqB] using hB, h⟩
  | o :: l, k, listed, a, w, hl, hB, h => by
    have h0 : ops[k]? = some o := by simpa using (hl 0).symm
    simp only [List.length_cons, Region.seqB, Bool.and_eq_true, decide_eq_true_eq] at hB
    refine ⟨fun h1 => (by rw [hB.1] at h1; cases h1), fun i hi => ?_⟩
    rw [hB.1] at hi
    have hik : i = k := by simpa using hi
    subst hik
    have hw : wpOpIn (Fw ro) 0 P ops Q' i (wpListIn (Fw ro) 0 P ops Q' l) a w := by unfold wpOpIn; simp only [h0]; exact h
    exact wpOpIn_mono (fun a' w' h' => wpAnyIn_of_seq l (i + 1) _ a' w' (fun j => by have := hl (j + 1); simpa [Nat.add_assoc, Nat.add_comm 1 j] using this) hB.2 h') hw

theorem wpAnyT_lex {n g : Nat} {Lq : Act → Prop} (hsel : Region.noSelect ops = true) (hs : Region.sinkB md ops n = true) (hc : Region.chainB md ops n = true) (hn : n < ops.size) :
    ∀ (l : List Oper) (k : Nat) (listed : Array Bool) (a : Act), (∀ j, j < l.length → l[j]? = ops[k + j]?) → k + l.length = n → HeadInv md ops n listed →
    Region.lexHead md ops g l.length k listed = true → wpQuiet P ops C Lq l a →
    wpAnyT P md ops C n (fun listed' a' => Region.seqB md ops g n listed' = true ∧ Lq a') l.length listed a
  | [], k, listed, a, _, hk, _, hB, h => by
    have : k = n := by simpa using hk
    subst this
    exact ⟨by simpa [Region.lexHead] using hB, h⟩
  | o :: l, k, listed, a, hl, hk, inv, hB, h => by
    have h0 : ops[k]? = some o := by simpa using (hl 0 (by simp)).symm
    simp only [List.length_cons, Region.lexHead, Bool.and_eq_true] at hB
    obtain ⟨⟨hr, hf⟩, hB'⟩ := hB
    have hkn : k < n := by simp only [List.length_cons] at hk; omega
    have hr' : k ∈ Region.ready md ops listed := by simpa using hr
    have hst : qOp P ops C k (wpQuiet P ops C Lq l) a := by unfold qOp; simp only [h0]; exact h
    obtain ⟨v, hy, hK⟩ := yieldsIn_of_qOp h0 hst
    exact wpAnyT_first h0 (Region.noSelect_spec hsel) hs hc hn hkn (fun listed' a' hL => seqB_ready hL.1) l.length listed a inv (Region.free_spec h0 hf) hr' hy
      (wpAnyT_lex hsel hs hc hn l (k + 1) _ _ (fun j hj => by have := hl (j + 1) (by simp; omega); simpa [Nat.add_assoc, Nat.add_comm 1 j] using this) (by simp only [List.length_cons] at hk; omega) (inv.set hr' hkn) hB' hK)

theorem region_tail {id : Nat} {Q : Post} {a : Act} {w : World} [hm : Mixed P] {l : List Oper} (n : Nat) (hB : Region.lexTailB .any l.toArray n = true) (hC : C w.drew)
    (h : wpQuiet P l.toArray C (fun a' => ∀ w', C w' → wpListIn (Fw ro) 0 P l.toArray Q (l.drop n) a' w') (l.take n) a) : (Code.region id l.toArray true).wpIn (Fw ro) 0 P Q a w := by
  simp only [Region.lexTailB, Bool.and_eq_true, decide_eq_true_eq] at hB
  obtain ⟨⟨⟨⟨hsel, hn⟩, hs⟩, hc⟩, hlex⟩ := hB
  have hn' : n < l.length := by simpa using hn
  have htl : (l.take n).length = n := by simp; omega
  have hdl : (l.drop n).length = l.toArray.size - n := by simp
  have inv0 : HeadInv .any l.toArray n (Array.replicate l.toArray.size false) :=
    ⟨by simp, fun j oj _ hl => (by rw [getD_replicate_false] at hl; cases hl), fun t _ ht => getD_in (by simpa using ht) (getD_replicate_false _ _)⟩
  have hh := wpAnyT_lex (C := C) (P := P) (md := .any) (g := l.toArray.size - n) hsel hs hc hn (l.take n) 0 _ a (fun j hj => by
    have hj' : j < n := by rw [htl] at hj; exact hj
    simp [hj']) (by simpa using htl) inv0 (by rw [htl]; exact hlex) h
  refine wpIn_region_any hm.h ?_
  have := wpAnyIn_of_T (ro := ro) (Q' := Q) (g := l.toArray.size - n) (fun listed a' w' hw' hL => by
    have := wpAnyIn_of_seq (ro := ro) (P := P) (md := .any) (Q' := Q) (l.drop n) n listed a' w' (fun j => by simp [List.getElem?_drop]) (by rw [hdl]; exact hL.1) (hL.2 w' hw')
    rwa [hdl] at this) _ _ _ _ hC hh
  rw [htl, show n + (l.toArray.size - n) = l.toArray.size by omega] at this
  exact this
end

section
variable {X : Cx} {e : Env} {l : List (Nat × Obj)} {H : Hp} {D : List Deferred} {P : Program} {k : List It} {all : Array Oper}
/-- The walk of a region whose operations only yield values. -/
def TQ (P : Program) (X : Cx) (e : Env) (l : List (Nat × Obj)) (H : Hp) (D : List Deferred) (all : Array Oper) (rest : List Oper) (k : List It) : Prop :=
  ∀ a, Ea X e D a → wpQuiet P all (Wd X l H) (fun a' => ∀ w', Wd X l H w' → wpK P X.ro X.Q k .normal a' w') rest a

theorem T.regionQ {id : Nat} {os : List Oper} [Mixed P] (hB : Region.lexB .any os.toArray = true) (h : TQ P X e l H D os.toArray os k) : T P X e l H D (.code (.region id os.toArray true) :: k) :=
  T.mk fun a w ha hw => region_quiet (C := Wd X l H) hB hw.drew (h a ha)
theorem T.regionT {id : Nat} {os : List Oper} [Mixed P] (n : Nat) (hB : Region.lexTailB .any os.toArray n = true) (h : TQ P X e l H D os.toArray (os.take n) (.ops os.toArray (os.drop n) :: k)) : T P X e l H D (.code (.region id os.toArray true) :: k) :=
  T.mk fun a w ha hw => region_tail (C := Wd X l H) n hB hw.drew (h a ha)
theorem TQ.nil (h : T P X e l H D k) : TQ P X e l H D all [] k := fun a ha w' hw' => h.get a w' ha hw'
theorem TQ.pv {rest : List Oper} {o : Oper} {v : Value} {d : Nat} (hv : PV P e l H o v) (hw : Wanted e all o) (hd : o.dst = some d) (hN : Nat.blt d X.N = true)
    (h : TQ P X ((d, v) :: e) l H D all rest k) : TQ P X e l H D all (o :: rest) k := fun a ha => by
  show if _ then _ else _
  rw [if_pos (hw.get X D a ha)]
  refine ⟨v, fun w hw' => ?_, ?_⟩
  · unfold Oper.quietAt
    rw [hv.get X D a w ha hw']
    exact ⟨rfl, rfl⟩
  · rw [hd]; exact h _ (ha.put (by simpa using hN) v)
theorem TQ.pass {rest : List Oper} {o : Oper} {d : Nat} (hw : Unwanted e all o) (hd : o.dst = some d) (hN : Nat.blt d X.N = true)
    (h : TQ P X ((d, undef) :: e) l H D all rest k) : TQ P X e l H D all (o :: rest) k := fun a ha => by
  show if _ then _ else _
  rw [if_neg (by rw [hw.get X D a ha]; simp), hd]
  exact h _ (ha.put (by simpa using hN) undef)
theorem TQ.callV {rest : List Oper} {ty : TypeId} {pos : String} {after : Array Edge} {gd : Option (Nat × Bool)} {d : Nat} {f : FuncId} [hE : Ent P f] {xs : List Operand} {ts : Array TypeId} {vs : List Value} {v : Value} (hw : Wanted e all ⟨some d, .call ⟨.value (.func f), xs.toArray, ts⟩, ty, pos, after, gd⟩) (hN : Nat.blt d X.N = true)
    (hv : evL e xs = some vs) (hf : Fn P f vs.toArray H (fun u _ => u = v))
    (h : TQ P X ((d, v) :: e) l H D all rest k) :
    TQ P X e l H D all (⟨some d, .call ⟨.value (.func f), xs.toArray, ts⟩, ty, pos, after, gd⟩ :: rest) k := fun a ha => by
  show if _ then _ else _
  rw [if_pos (hw.get X D a ha)]
  refine ⟨v, fun w hw' => ?_, h _ (ha.put (by simpa using hN) v)⟩
  have hrun : (execOp a.eval ⟨some d, .call ⟨.value (.func f), xs.toArray, ts⟩, ty, pos, after, gd⟩).run P w = .ok (.enter f vs.toArray) w := by
    have := evL_map ha xs vs hv
    have hE' := hE.h (xs.map a.eval).toArray w
    rw [this] at hE'
    simp [execOp, resolve, Act.eval, Deferred.ofValue, invoke, List.map_toArray, this, hE']
  unfold Oper.quietAt
  rw [hrun]
  refine ⟨rfl, (callsIn_wide.1 (hf.get w hw'.fro)).mono ?_⟩
  rintro en w' ⟨u, H', rfl, h2, h3, h4, rfl⟩
  exact ⟨rfl, hw'.callV h4⟩
/-! #### what a slot's Bool is -/
theorem Ea.over {X : Cx} {e : Env} {D : List Deferred} {a : Act} {d : Nat} {v : Value} (ha : Ea X e D a) (hg : e.get d = some v) : Ea X ((d, v) :: e) D a := ⟨ha.size, fun i u hi => by
  simp only [Env.get] at hi
  by_cases e1 : Nat.beq i d = true
  · rw [e1] at hi
    simp only [cond_true, Option.some.injEq] at hi
    rw [Nat.eq_of_beq_eq_true e1, ← hi]
    exact ha.get d v hg
  · have e2 : Nat.beq i d = false := Bool.eq_false_iff.2 e1
    rw [e2] at hi
    exact ha.get i u hi, ha.dfr⟩
theorem T.over {d : Nat} {v : Value} (hg : e.get d = some v) (h : T P X ((d, v) :: e) l H D k) : T P X e l H D k := T.mk fun a w ha hw => h.get a w (ha.over hg) hw
theorem TQ.over {d : Nat} {v : Value} {rest : List Oper} (hg : e.get d = some v) (h : TQ P X ((d, v) :: e) l H D all rest k) : TQ P X e l H D all rest k := fun a ha => h a (ha.over hg)
theorem T.splitB {d : Nat} {b : Bool} (hg : e.get d = some (.bool b)) (ht : b = true → T P X ((d, .bool true) :: e) l H D k) (hf : b = false → T P X ((d, .bool false) :: e) l H D k) : T P X e l H D k := by
  cases b
  · exact T.over hg (hf rfl)
  · exact T.over hg (ht rfl)
theorem TQ.splitB {d : Nat} {b : Bool} {rest : List Oper} (hg : e.get d = some (.bool b)) (ht : b = true → TQ P X ((d, .bool true) :: e) l H D all rest k) (hf : b = false → TQ P X ((d, .bool false) :: e) l H D all rest k) : TQ P X e l H D all rest k := by
  cases b
  · exact TQ.over hg (hf rfl)
  · exact TQ.over hg (ht rfl)
theorem T.splitD {d : Nat} {p : Prop} {i : Decidable p} (hg : e.get d = some (.bool (decide p))) (ht : p → T P X ((d, .bool true) :: e) l H D k) (hf : ¬ p → T P X ((d, .bool false) :: e) l H D k) : T P X e l H D k :=
  T.splitB hg (fun h => ht (of_decide_eq_true h)) (fun h => hf (of_decide_eq_false h))
theorem TQ.splitD {d : Nat} {p : Prop} {i : Decidable p} {rest : List Oper} (hg : e.get d = some (.bool (decide p))) (ht : p → TQ P X ((d, .bool true) :: e) l H D all rest k) (hf : ¬ p → TQ P X ((d, .bool false) :: e) l H D all rest k) : TQ P X e l H D all rest k :=
  TQ.splitB hg (fun h => ht (of_decide_eq_true h)) (fun h => hf (of_decide_eq_false h))
theorem T.setT {d : Nat} {p : Prop} {i : Decidable p} (hg : e.get d = some (.bool (decide p))) (hp : p) (h : T P X ((d, .bool true) :: e) l H D k) : T P X e l H D k := T.over hg (by rw [decide_eq_true hp]; exact h)
theorem T.setF {d : Nat} {p : Prop} {i : Decidable p} (hg : e.get d = some (.bool (decide p))) (hp : ¬ p) (h : T P X ((d, .bool false) :: e) l H D k) : T P X e l H D k := T.over hg (by rw [decide_eq_false hp]; exact h)
theorem TQ.setT {d : Nat} {p : Prop} {i : Decidable p} {rest : List Oper} (hg : e.get d = some (.bool (decide p))) (hp : p) (h : TQ P X ((d, .bool true) :: e) l H D all rest k) : TQ P X e l H D all rest k := TQ.over hg (by rw [decide_eq_true hp]; exact h)
theorem TQ.setF {d : Nat} {p : Prop} {i : Decidable p} {rest : List Oper} (hg : e.get d = some (.bool (decide p))) (hp : ¬ p) (h : TQ P X ((d, .bool false) :: e) l H D all rest k) : TQ P X e l H D all rest k := TQ.over hg (by rw [decide_eq_false hp]; exact h)
attribute [irreducible] TQ
end

end Go.Proofs.YtecogbhbkccblaaGreatDoor
namespace Go.Proofs.YtecogbhbkccblaaGreatDoor
open Go.RowKit

/-- What the operations so far have yielded, one behind the other; nothing for a store. -/
abbrev Plan := List (Option (Nat × Value))
def predE (pl : Plan) (o : Oper) : Env := o.after.toList.filterMap fun ed => bif Region.binds .any ed then (pl[ed.on]?).join else none
/-- A store. -/
def PS (P : Program) (e : Env) (l : List (Nat × Obj)) (H : Hp) (o : Oper) (l' : List (Nat × Obj)) : Prop :=
  ∀ (X : Cx) (D : List Deferred) (a : Act) (w : World), Ea X e D a → Wd X l H w → ∃ w', (execOp a.eval o).run P w = .ok .skip w' ∧ Wd X l' H w'

/-- how many stores stand before i -/
def cnt (l : List Oper) (i : Nat) : Nat := ((l.take i).filter (·.dst.isNone)).length
inductive Ob (P : Program) (e0 : Env) (l0 : List (Nat × Obj)) (H : Hp) (all : Array Oper) (N : Nat) : Plan → List (List (Nat × Obj)) → List (Nat × Obj) → List Oper → Plan → List (List (Nat × Obj)) → List (Nat × Obj) → Prop
  | nil {pl ls lc} : Ob P e0 l0 H all N pl ls lc [] pl ls lc
  | pv {pl ls lc o os plF lsF lF d v} (hv : PV P (predE pl o ++ e0) l0 H o v) (hw : Wanted (predE pl o ++ e0) all o) (hd : o.dst = some d) (hN : d < N)
      (h : Ob P e0 l0 H all N (pl ++ [some (d, v)]) ls lc os plF lsF lF) : Ob P e0 l0 H all N pl ls lc (o :: os) plF lsF lF
  | pass {pl ls lc o os plF lsF lF d} (hw : Unwanted (predE pl o ++ e0) all o) (hd : o.dst = some d) (hN : d < N)
      (h : Ob P e0 l0 H all N (pl ++ [some (d, undef)]) ls lc os plF lsF lF) : Ob P e0 l0 H all N pl ls lc (o :: os) plF lsF lF
  | ps {pl ls lc lc' o os plF lsF lF} (hv : PS P (predE pl o ++ e0) lc H o lc') (hw : Wanted (predE pl o ++ e0) all o) (hd : o.dst = none) (hs : List.Sublist l0 lc')
      (h : Ob P e0 l0 H all N (pl ++ [none]) (ls ++ [lc]) lc' os plF lsF lF) : Ob P e0 l0 H all N pl ls lc (o :: os) plF lsF lF

section
variable {P : Program} {e0 : Env} {l0 : List (Nat × Obj)} {H : Hp} {all : Array Oper} {N : Nat}

end

section
variable {P : Program} {X : Cx} {e e0 : Env} {l l0 : List (Nat × Obj)} {H : Hp} {D : List Deferred} {k : List It} {all : Array Oper}
/-- The walk of such a region. -/
def TA (P : Program) (X : Cx) (e0 : Env) (l0 : List (Nat × Obj)) (H : Hp) (D : List Deferred) (all : Array Oper) (k : List It) (pl : Plan) (ls : List (List (Nat × Obj))) (lc : List (Nat × Obj)) (os : List Oper) : Prop :=
  ∃ plF lsF lF, Ob P e0 l0 H all X.N pl ls lc os plF lsF lF ∧ T P X (plF.filterMap id ++ e0) lF H D k
attribute [irreducible] TA PS
end
end Go.Proofs.YtecogbhbkccblaaGreatDoor
