/- Own layer: regions whose order is open, with operations that only yield values and operations that make or write memory. -/
import Derived.Test.YtceaicameojcaaaXN
namespace Go.Proofs.Ytceaicameojcaaa
open Go.RowKit

section
variable {P : Program} {ops : Array Oper} {md : Region.Mode} {ro : Option Nat} {C : World → Prop}

theorem Oper.wpIn_monoQ {F : Fence} {n : Nat} {o : Oper} {a : Act} {w : World} {K : Act → World → Prop} {Q Q' : Exit → Act → World → Prop} (h : ∀ e a w, (e ≠ .normal) → Q e a w → Q' e a w)
    (hh : o.wpIn F n P a w K Q) : o.wpIn F n P a w K Q' := by
  unfold Oper.wpIn at *
  refine ⟨hh.1, ?_⟩
  have hh := hh.2
  generalize (o.semAt F.round a.eval).run P w = r at *
  cases r with
  | ok x w' =>
    cases x <;> simp only [Oper.uponIn] at hh ⊢ <;>
      first
        | exact hh
        | exact ⟨hh.1, CallsIn.mono hh.2 (fun e w'' he => by cases e <;> first | exact he | exact h _ _ _ (by simp) he | (obtain ⟨a1, w1, h1⟩ := he; exact ⟨a1, w1, h _ _ _ (by simp) h1⟩))⟩
        | exact ⟨hh.1, RowsIn.mono hh.2 (fun _ _ he => he)⟩
        | exact ⟨hh.1, RoundIn.mono hh.2 (fun e w'' he => by cases e <;> first | exact he | exact h _ _ _ (by simp) he | (obtain ⟨a1, w1, h1⟩ := he; exact ⟨a1, w1, h _ _ _ (by simp) h1⟩))⟩
  | halt x w' => cases x <;> simp only [Oper.uponIn] at hh ⊢ <;> first | exact hh | exact h _ _ _ (by simp) hh
theorem wpOpIn_monoQ {F : Fence} {n : Nat} {i : Nat} {a : Act} {w : World} {K : Act → World → Prop} {Q Q' : Exit → Act → World → Prop} (h : ∀ e a w, (e ≠ .normal) → Q e a w → Q' e a w)
    (hh : wpOpIn F n P ops Q i K a w) : wpOpIn F n P ops Q' i K a w := by
  unfold wpOpIn at *
  split
  · simpa [*] using hh
  · rename_i o ho
    simp only [ho] at hh
    split
    · rename_i hw; simp only [hw, if_true] at hh; exact Oper.wpIn_monoQ h hh
    · rename_i hw; simp only [hw] at hh; exact hh

/-- All orders, the class of worlds kept; no panic. -/
def wpAnyC (ro : Option Nat) (P : Program) (md : Region.Mode) (ops : Array Oper) (C : World → Prop) (Q : Act → World → Prop) : Nat → Array Bool → Act → World → Prop
  | 0, listed, a, w => C w ∧ Region.ready md ops listed = [] ∧ Q a w
  | fuel + 1, listed, a, w => C w ∧ (Region.ready md ops listed = [] → Q a w) ∧
    ∀ i ∈ Region.ready md ops listed, wpOpIn (Fw ro) 0 P ops (fun _ _ _ => False) i (wpAnyC ro P md ops C Q fuel (listed.setIfInBounds i true)) a w
theorem wpAnyC.cls {Q : Act → World → Prop} {fuel : Nat} {listed : Array Bool} {a : Act} {w : World} (h : wpAnyC ro P md ops C Q fuel listed a w) : C w := by
  cases fuel <;> exact h.1
theorem wpAnyC.any {Q : Act → World → Prop} {Q' : Post} (hQ : ∀ a w, Q a w → Q' .normal a w) : ∀ {fuel : Nat} {listed : Array Bool} {a : Act} {w : World}, wpAnyC ro P md ops C Q fuel listed a w → wpAnyIn (Fw ro) 0 P md ops Q' fuel listed a w
  | 0, _, _, _, h => ⟨h.2.1, hQ _ _ h.2.2⟩
  | _ + 1, _, _, _, h => ⟨fun h0 => hQ _ _ (h.2.1 h0), fun i hi => wpOpIn_monoQ (fun _ _ _ _ hf => hf.elim) (wpOpIn_mono (fun _ _ hk => hk.any hQ) (h.2.2 i hi))⟩

def YieldsC (P : Program) (ops : Array Oper) (C : World → Prop) (o : Oper) (v : Value) (a : Act) : Prop :=
  (Region.wanted o (yielded ops a.tmps) = true ∧ ∀ w, C w → (execOp a.eval o).run P w = .ok (.value v) w) ∨ (Region.wanted o (yielded ops a.tmps) = false ∧ v = undef)
theorem YieldsC.of_same {o : Oper} {v : Value} {a a' : Act} (hy : YieldsC P ops C o v a) (he : execOp a'.eval o = execOp a.eval o)
    (hw : Region.wanted o (yielded ops a'.tmps) = Region.wanted o (yielded ops a.tmps)) : YieldsC P ops C o v a' := by
  unfold YieldsC at *
  rw [he, hw]
  exact hy
theorem YieldsC.wpOpIn {Q : Post} {i : Nat} {o : Oper} {v : Value} {a : Act} (hd : ∀ c, o.op ≠ .defer c) (hi : ops[i]? = some o) (hy : YieldsC P ops C o v a)
    {K : Act → World → Prop} {w : World} (hC : C w) (h : K (a.put o.dst v) w) : wpOpIn (Fw ro) 0 P ops Q i K a w := by
  unfold Go.wpOpIn
  simp only [hi]
  have hab : ∀ f, o.about P w a.eval = some f → (Fw ro).fn f := fun f hf => trivial
  rcases hy with ⟨hw, hv⟩ | ⟨hw, rfl⟩
  · simp only [hw, if_true, Oper.wpIn, Oper.semAt_eq _ _ _ hd, hv w hC, Oper.uponIn]; exact ⟨hab, h⟩
  · simp only [hw, Bool.false_eq_true, if_false]; exact ⟨hab, h⟩
theorem wpOpIn_putC {Q : Post} {j : Nat} {oi oj : Oper} {v : Value} (hdj : ∀ c, oj.op ≠ .defer c) (hj : ops[j]? = some oj) (hap : oi.apart ops oj = true)
    (hsi : ∀ cs b, oi.op ≠ .select cs b) (hsj : ∀ cs b, oj.op ≠ .select cs b)
    (hQ : ∀ c a w, Q (.panic c) (a.put oi.dst v) w → Q (.panic c) a w) {K : Act → World → Prop} {a : Act} {w : World}
    (hy : YieldsC P ops C oi v a) (h : wpOpIn (Fw ro) 0 P ops Q j K (a.put oi.dst v) w) :
    wpOpIn (Fw ro) 0 P ops Q j (fun a' w' => YieldsC P ops C oi v a' ∧ K (a'.put oi.dst v) w') a w := by
  obtain ⟨h1, h2, h3⟩ := Oper.apart_spec hap
  have keep : ∀ (a : Act), YieldsC P ops C oi v a → ∀ u, YieldsC P ops C oi v (a.put oj.dst u) := fun a hy u =>
    hy.of_same (execOp_put oi hsi a oj.dst u h3) (wanted_put oi a oj.dst u h3)
  unfold wpOpIn at *
  simp only [hj] at *
  rw [wanted_put oj a oi.dst v h1, about_put oj w a oi.dst v h1] at h
  split
  · rename_i hw
    simp only [hw, if_true] at h
    unfold Oper.wpIn at *
    rw [about_put oj w a oi.dst v h1] at h
    refine ⟨h.1, ?_⟩
    have h := h.2
    rw [Oper.semAt_eq _ _ _ hdj, execOp_put oj hsj a oi.dst v h1] at h
    rw [Oper.semAt_eq _ _ _ hdj]
    generalize (execOp a.eval oj).run P w = r at *
    cases r with
    | ok x w' =>
      cases x <;> simp only [Oper.uponIn] at h ⊢
      case value u => exact ⟨keep a hy u, by rw [← Act.put_comm a v u h2]; exact h⟩
      case skip => exact ⟨keep a hy _, by rw [← Act.put_comm a v undef h2]; exact h⟩
      case defer d =>
        refine ⟨keep { a with defers := d :: a.defers } (hy.of_same rfl rfl) undef, ?_⟩
        rw [← Act.put_comm _ v undef h2, ← Act.put_defers]
        exact h
      case enter f args =>
        refine ⟨h.1, CallsIn.mono h.2 fun e w'' he => ?_⟩
        cases e with
        | returned u => exact ⟨keep a hy u, by rw [← Act.put_comm a v u h2]; exact he⟩
        | panicked c => exact hQ _ _ _ he
        | outgrown => exact he
      case row row args => exact ⟨h.1, RowsIn.mono h.2 fun u w'' he => ⟨keep a hy u, by rw [← Act.put_comm a v u h2]; exact he⟩⟩
      case round l f tmps assign body =>
        refine ⟨h.1, RoundIn.mono h.2 fun e w'' he => ?_⟩
        cases e with
        | returned u => exact ⟨keep a hy u, by rw [← Act.put_comm a v u h2]; exact he⟩
        | panicked c => exact hQ _ _ _ he
        | outgrown => exact he
    | halt x w' =>
      cases x <;> simp only [Oper.uponIn] at h ⊢
      case panic u => exact hQ _ _ _ h
  · rename_i hw
    simp only [hw] at h
    exact ⟨h.1, keep a hy _, by rw [← Act.put_comm a v undef h2]; exact h.2⟩
def noDefer (ops : Array Oper) : Bool := ops.all fun o => match o.op with | .defer _ => false | .select .. => false | _ => true
theorem noDefer_spec (h : noDefer ops = true) {j : Nat} {o : Oper} (ho : ops[j]? = some o) : (∀ c, o.op ≠ .defer c) ∧ ∀ cs b, o.op ≠ .select cs b := by
  have := Array.all_eq_true_iff_forall_mem.1 h o (Array.mem_of_getElem? ho)
  exact ⟨fun c e => by simp [e] at this, fun cs b e => by simp [e] at this⟩
/-- An operation that only yields a value may be taken first. -/
theorem wpAnyC_first {Q : Act → World → Prop} {i : Nat} {oi : Oper} {v : Value} (hi : ops[i]? = some oi) (hnd : noDefer ops = true) :
    ∀ (fuel : Nat) (listed : Array Bool) (a : Act) (w : World),
      (∀ j oj, ops[j]? = some oj → j ≠ i → listed.getD j true = false → (∀ e ∈ oj.after, Region.binds md e = true → e.on ≠ i) → oi.apart ops oj = true) →
      i ∈ Region.ready md ops listed → YieldsC P ops C oi v a →
      wpAnyC ro P md ops C Q fuel (listed.setIfInBounds i true) (a.put oi.dst v) w → wpAnyC ro P md ops C Q (fuel + 1) listed a w := by
  intro fuel
  induction fuel with
  | zero =>
    intro listed a w _ hr hy H
    refine ⟨H.cls, (fun h => by rw [h] at hr; cases hr), fun j hj => ?_⟩
    by_cases hji : j = i
    · subst hji; exact hy.wpOpIn (noDefer_spec hnd hi).1 hi H.cls H
    · have := ready_mono hj hji
      rw [H.2.1] at this
      cases this
  | succ fuel ih =>
    intro listed a w hfree hr hy H
    refine ⟨H.cls, (fun h => by rw [h] at hr; cases hr), fun j hj => ?_⟩
    by_cases hji : j = i
    · subst hji; exact hy.wpOpIn (noDefer_spec hnd hi).1 hi H.cls H
    · have h1 := H.2.2 j (ready_mono hj hji)
      obtain ⟨hjun, oj, hoj, hall⟩ := mem_ready.1 hj
      have hnot : ∀ e ∈ oj.after, Region.binds md e = true → e.on ≠ i := fun e he hb heq => by
        have h1 := hall e he hb
        have h0 := (mem_ready.1 hr).1
        rw [heq] at h1
        rcases Nat.lt_or_ge i listed.size with h' | h'
        · simp [h'] at h0 h1; rw [h0] at h1; cases h1
        · simp [Array.getElem?_eq_none h'] at h1
      have h2 := wpOpIn_putC (C := C) (noDefer_spec hnd hoj).1 hoj (hfree j oj hoj hji hjun hnot) (noDefer_spec hnd hi).2 (noDefer_spec hnd hoj).2 (fun _ _ _ hf => hf) hy h1
      have hfree' : ∀ k ok, ops[k]? = some ok → k ≠ i → (listed.setIfInBounds j true).getD k true = false →
          (∀ e ∈ ok.after, Region.binds md e = true → e.on ≠ i) → oi.apart ops ok = true := fun k ok hk hki hun hno => by
        refine hfree k ok hk hki ?_ hno
        by_cases hjk : j = k
        · subst hjk; exact hjun
        · rw [getD_set_ne true hjk] at hun; exact hun
      refine wpOpIn_mono (fun a' w' h3 => ih (listed.setIfInBounds j true) a' w' hfree' (ready_mono hr (Ne.symm hji)) h3.1 ?_) h2
      rw [Array.setIfInBounds_comm _ _ hji]
      exact h3.2
end

section
variable {P : Program} {X : Cx} {e : Env} {l : List (Nat × Obj)} {H : Hp} {D : List Deferred} {k : List It} {ops : Array Oper}
/-- The class of worlds of a region: these blocks are not written in it. -/
def Cls (lc : List (Nat × Obj)) (Hc : Hp) : World → Prop := fun w => (X0.mk w Hc (own0 lc)).wd lc Hc w
def Cx.safe (X : Cx) : Cx := { X with Q := fun _ _ _ => False }
def TO (P : Program) (X : Cx) (e : Env) (l : List (Nat × Obj)) (H : Hp) (D : List Deferred) (ops : Array Oper) (lc : List (Nat × Obj)) (Hc : Hp) (fuel : Nat) (listed : Array Bool) (k : List It) : Prop :=
  ∀ a w, Ea X e D a → Wd X l H w → wpAnyC X.ro P .any ops (Cls lc Hc) (fun a w => wpK P X.ro X.Q k .normal a w) fuel listed a w
theorem cls_of {lc : List (Nat × Obj)} {Hc : Hp} {w : World} (h : Wd X l H w) (hl : List.Sublist lc l) (hH : Hc.le H) : Cls lc Hc w := by
  have h' := h.sub hl
  refine ⟨fun p hp => ?_, h'.nd, fun b o hb => h'.fro b o (hH b o hb), Keep.refl _ _, Hp.le.refl _, fun _ _ _ => rfl⟩
  obtain ⟨h1, h2, _⟩ := h'.own p hp
  refine ⟨h1, ?_, fun _ hn => hn (List.mem_map.2 ⟨p, hp, rfl⟩)⟩
  cases hc : Hc p.1 with
  | none => rfl
  | some o => rw [hH _ _ hc] at h2; cases h2
theorem T.regionO {id : Nat} {os : List Oper} [hm : Mixed P] (lc : List (Nat × Obj)) (hnd : noDefer os.toArray = true) (h : TO P X e l H D os.toArray lc H os.length (Array.replicate os.length false) k) :
    T P X e l H D (.code (.region id os.toArray true) :: k) := T.mk fun a w ha hw => by
  show (Code.region id os.toArray true).wpIn (Fw X.ro) 0 P _ a w
  refine wpIn_region_any hm.h ?_
  have := (h a w.drew ha hw.drew).any (Q' := wpK P X.ro X.Q k) (fun _ _ h => h)
  simpa using this
theorem T.regionOl {id : Nat} {os : List Oper} [hm : Mixed P] (hnd : noDefer os.toArray = true) (h : TO P X e l H D os.toArray l H os.length (Array.replicate os.length false) k) :
    T P X e l H D (.code (.region id os.toArray true) :: k) := T.regionO l hnd h
theorem T.regionOr {id : Nat} {os : List Oper} [hm : Mixed P] {lc : List (Nat × Obj)} (_hs : List.Sublist lc l) (hnd : noDefer os.toArray = true) (h : TO P X e l H D os.toArray lc H os.length (Array.replicate os.length false) k) :
    T P X e l H D (.code (.region id os.toArray true) :: k) := T.regionO lc hnd h
/-- Take an operation that only yields a value. -/
theorem TO.take {lc : List (Nat × Obj)} {Hc : Hp} {fuel d : Nat} {listed : Array Bool} {o : Oper} {v : Value} (i : Nat) (hi : ops[i]? = some o) (hnd : noDefer ops = true) (hr : (Region.ready .any ops listed).contains i = true) (hf : Region.free .any ops listed i = true)
    (hv : PV P e lc Hc o v) (hw : Wanted e ops o) (hd : o.dst = some d) (hN : Nat.blt d X.N = true) (h : TO P X ((d, v) :: e) l H D ops lc Hc fuel (listed.setIfInBounds i true) k) :
    TO P X e l H D ops lc Hc (fuel + 1) listed k := fun a w ha hw' => by
  refine wpAnyC_first (v := v) hi hnd fuel listed a w (Region.free_spec hi hf) (by simpa using hr) (.inl ⟨hw.get X D a ha, fun w2 hC => ?_⟩) ?_
  · exact hv.get { X with w1 := w2, H0 := Hc, Pt := own0 lc } D a w2 ⟨ha.size, ha.get, ha.dfr⟩ (hC.re rfl rfl rfl)
  · rw [hd]; exact h _ w (ha.put (by simpa using hN) v) hw'
theorem TO.pass {lc : List (Nat × Obj)} {Hc : Hp} {fuel d : Nat} {listed : Array Bool} {o : Oper} (i : Nat) (hi : ops[i]? = some o) (hnd : noDefer ops = true) (hr : (Region.ready .any ops listed).contains i = true) (hf : Region.free .any ops listed i = true)
    (hw : Unwanted e ops o) (hd : o.dst = some d) (hN : Nat.blt d X.N = true) (h : TO P X ((d, undef) :: e) l H D ops lc Hc fuel (listed.setIfInBounds i true) k) :
    TO P X e l H D ops lc Hc (fuel + 1) listed k := fun a w ha hw' => by
  refine wpAnyC_first (v := undef) hi hnd fuel listed a w (Region.free_spec hi hf) (by simpa using hr) (.inr ⟨hw.get X D a ha, rfl⟩) ?_
  rw [hd]; exact h _ w (ha.put (by simpa using hN) undef) hw'
/-- What the rest of a region comes to. -/
def TOJ (P : Program) (X : Cx) (ops : Array Oper) (lc : List (Nat × Obj)) (Hc : Hp) (fuel : Nat) (listed : Array Bool) (k : List It) : Act → World → Prop :=
  fun a w => wpAnyC X.ro P .any ops (Cls lc Hc) (fun a w => wpK P X.ro X.Q k .normal a w) fuel listed a w
/-- The one operation that may come now. -/
theorem TO.step {lc : List (Nat × Obj)} {Hc : Hp} {fuel : Nat} {listed : Array Bool} {o : Oper} (i : Nat) (hi : ops[i]? = some o) (hr : Region.ready .any ops listed = [i]) (hl : List.Sublist lc l) (hH : Hc.le H)
    (h : T P X.safe e l H D [.ops ops [o], .done (TOJ P X ops lc Hc fuel (listed.setIfInBounds i true) k)]) : TO P X e l H D ops lc Hc (fuel + 1) listed k := fun a w ha hw' => by
  refine ⟨cls_of hw' hl hH, (fun h0 => by rw [hr] at h0; cases h0), fun j hj => ?_⟩
  rw [hr] at hj
  obtain rfl := List.mem_singleton.1 hj
  have h1 := h.get a w ⟨ha.size, ha.get, ha.dfr⟩ (hw'.re rfl rfl rfl)
  have h2 : wpListIn (Fw X.ro) 0 P ops (wpK P X.ro X.safe.Q [.done (TOJ P X ops lc Hc fuel (listed.setIfInBounds j true) k)]) [o] a w := h1
  unfold wpOpIn
  simp only [hi]
  simp only [wpListIn] at h2
  split
  · rename_i hw
    simp only [hw, if_true] at h2
    exact Oper.wpIn_monoQ (fun e a w hn he => by cases e <;> first | exact absurd rfl hn | exact he) h2
  · rename_i hw
    simp only [hw] at h2
    exact h2
/-- Two operations that may come now: both ways. -/
theorem TO.both {lc : List (Nat × Obj)} {Hc : Hp} {fuel : Nat} {listed : Array Bool} {o1 o2 : Oper} (i j : Nat) (hi : ops[i]? = some o1) (hj : ops[j]? = some o2) (hr : Region.ready .any ops listed = [i, j]) (hl : List.Sublist lc l) (hH : Hc.le H)
    (h1 : T P X.safe e l H D [.ops ops [o1], .done (TOJ P X ops lc Hc fuel (listed.setIfInBounds i true) k)])
    (h2 : T P X.safe e l H D [.ops ops [o2], .done (TOJ P X ops lc Hc fuel (listed.setIfInBounds j true) k)]) : TO P X e l H D ops lc Hc (fuel + 1) listed k := fun a w ha hw' => by
  have key : ∀ (i : Nat) (o : Oper), ops[i]? = some o → T P X.safe e l H D [.ops ops [o], .done (TOJ P X ops lc Hc fuel (listed.setIfInBounds i true) k)] →
      wpOpIn (Fw X.ro) 0 P ops (fun _ _ _ => False) i (wpAnyC X.ro P .any ops (Cls lc Hc) (fun a w => wpK P X.ro X.Q k .normal a w) fuel (listed.setIfInBounds i true)) a w := by
    intro i o hi h
    have h1 := h.get a w ⟨ha.size, ha.get, ha.dfr⟩ (hw'.re rfl rfl rfl)
    have h2 : wpListIn (Fw X.ro) 0 P ops (wpK P X.ro X.safe.Q [.done (TOJ P X ops lc Hc fuel (listed.setIfInBounds i true) k)]) [o] a w := h1
    unfold wpOpIn
    simp only [hi]
    simp only [wpListIn] at h2
    split
    · rename_i hw
      simp only [hw, if_true] at h2
      exact Oper.wpIn_monoQ (fun e a w hn he => by cases e <;> first | exact absurd rfl hn | exact he) h2
    · rename_i hw
      simp only [hw] at h2
      exact h2
  refine ⟨cls_of hw' hl hH, (fun h0 => by rw [hr] at h0; cases h0), fun m hm => ?_⟩
  rw [hr] at hm
  rcases List.mem_cons.1 hm with rfl | hm
  · exact key _ _ hi h1
  · obtain rfl := List.mem_singleton.1 hm
    exact key _ _ hj h2
theorem TO.weak {lc : List (Nat × Obj)} {Hc : Hp} {fuel : Nat} {listed listed' : Array Bool} {e' : Env} {l' : List (Nat × Obj)} (he : Env.Sub e' e) (hl : l'.Perm l) (hs : listed' = listed) (h : TO P X e' l' H D ops lc Hc fuel listed' k) : TO P X e l H D ops lc Hc fuel listed k := by
  subst hs
  exact fun a w ha hw => h a w (ha.sub he) (hw.perm hl)
theorem TO.back {lc : List (Nat × Obj)} {Hc : Hp} {fuel : Nat} {listed : Array Bool} (h : TO P X e l H D ops lc Hc fuel listed k) : T P X.safe e l H D [.done (TOJ P X ops lc Hc fuel listed k)] :=
  T.done fun a w ha hw => h a w ⟨ha.size, ha.get, ha.dfr⟩ (hw.re rfl rfl rfl)
theorem TO.done {lc : List (Nat × Obj)} {Hc : Hp} {listed : Array Bool} (hr : Region.ready .any ops listed = []) (hl : List.Sublist lc l) (hH : Hc.le H) (h : T P X e l H D k) : TO P X e l H D ops lc Hc 0 listed k :=
  fun a w ha hw => ⟨cls_of hw hl hH, hr, h.get a w ha hw⟩
end
attribute [irreducible] TO TOJ
end Go.Proofs.Ytceaicameojcaaa
