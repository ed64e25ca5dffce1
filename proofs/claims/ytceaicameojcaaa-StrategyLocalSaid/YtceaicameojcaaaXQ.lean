/- Own layer: regions whose order is open: all that the region holds only yields values, or all but a tail that waits for the rest. -/
import Derived.Test.YtceaicameojcaaaXR
import Derived.Deep.Quiet
import Derived.StillTail
import Derived.OrdersIn
namespace Go.Proofs.Ytceaicameojcaaa
open Go.RowKit

class Mixed (P : Program) : Prop where
  h : P.follows .mixedOrders = true

section
variable {P : Program} {ops : Array Oper} {md : Region.Mode} {C : World → Prop} {ro : Option Nat}

theorem wpOpIn_of_qOp {i : Nat} {a : Act} {K : Act → Prop} {K' : Act → World → Prop} {Q' : Post} {w : World} (hC : C w) (h : ∀ a w', C w' → K a → K' a w') (hh : qOp P ops C i K a) : wpOpIn (Fw ro) 0 P ops Q' i K' a w := by
  unfold qOp at hh
  unfold wpOpIn
  split
  · rename_i ho; simp only [ho] at hh; exact h _ _ hC hh
  · rename_i o ho
    simp only [ho] at hh
    split
    · rename_i hw
      simp only [hw, if_true] at hh
      obtain ⟨v, h1, h2⟩ := hh
      refine ⟨fun _ _ => trivial, ?_⟩
      have h3 := h1 w hC
      unfold Oper.quietAt at h3
      cases hr : (execOp a.eval o).run P w with
      | halt x w' => rw [hr] at h3; exact h3.elim
      | ok nx w' =>
        rw [hr] at h3
        have hsem : (∀ d, nx ≠ .defer d) → (o.semAt (Fw ro).round a.eval).run P w = .ok nx w' := fun hd => run_semAt hr hd
        cases nx <;> simp only [Oper.quietUpon] at h3
        case value u =>
          rw [hsem (fun _ => by simp)]
          obtain ⟨e1, e2⟩ := h3
          rw [e1, e2]
          exact h _ _ hC h2
        case skip =>
          rw [hsem (fun _ => by simp)]
          obtain ⟨e1, e2⟩ := h3
          rw [e1, Oper.uponIn_skip, ← e2]
          exact h _ _ hC h2
        case enter f args =>
          rw [hsem (fun _ => by simp)]
          obtain ⟨e1, hc⟩ := h3
          rw [e1]
          refine ⟨fun hd => by simp [Fw, Fence.wide] at hd, ?_⟩
          have hc' : CallsIn (Fw ro) 0 P f args w _ := callsIn_wide.2 hc
          exact hc'.mono fun e w'' ⟨he, hw''⟩ => by subst he; exact h _ _ hw'' h2
    · rename_i hw; simp only [hw] at hh; exact ⟨fun _ _ => trivial, h _ _ hC hh⟩

theorem wpAnyIn_of_quiet {Q : Act → Prop} {Q' : Post} (hQ : ∀ a w, C w → Q a → Q' .normal a w) : ∀ (fuel : Nat) (listed : Array Bool) (a : Act) (w : World), C w →
    wpAnyQ P md ops C Q fuel listed a → wpAnyIn (Fw ro) 0 P md ops Q' fuel listed a w
  | 0, _, _, _, hw, h => ⟨h.1, hQ _ _ hw h.2⟩
  | fuel + 1, _, _, _, hw, h => ⟨fun h0 => hQ _ _ hw (h.1 h0), fun i hi => wpOpIn_of_qOp hw (fun a' w' hw' => wpAnyIn_of_quiet hQ fuel _ a' w' hw') (h.2 i hi)⟩

theorem region_quiet {id : Nat} {Q : Post} {a : Act} {w : World} [hm : Mixed P] {l : List Oper} (hB : Region.lexB .any l.toArray = true) (hC : C w.drew)
    (h : wpQuiet P l.toArray C (fun a' => ∀ w', C w' → Q .normal a' w') l a) : (Code.region id l.toArray true).wpIn (Fw ro) 0 P Q a w := by
  simp only [Region.lexB, Bool.and_eq_true] at hB
  refine wpIn_region_any hm.h (wpAnyIn_of_quiet (C := C) (Q := fun a' => ∀ w', C w' → Q .normal a' w') (fun _ w' hw' h => h w' hw') _ _ _ _ hC ?_)
  have := wpAnyQ_lex (C := C) (md := .any) hB.1 l 0 (Array.replicate l.toArray.size false) a (by simp) (by simpa using hB.2) h
  simpa using this

/-! #### with a tail -/
def wpAnyT (P : Program) (md : Region.Mode) (ops : Array Oper) (C : World → Prop) (n : Nat) (L : Array Bool → Act → Prop) : Nat → Array Bool → Act → Prop
  | 0, listed, a => L listed a
  | f + 1, listed, a => Region.ready md ops listed ≠ [] ∧ ∀ i ∈ Region.ready md ops listed, i < n ∧ qOp P ops C i (wpAnyT P md ops C n L f (listed.setIfInBounds i true)) a

theorem wpAnyIn_of_T {n g : Nat} {L : Array Bool → Act → Prop} {Q' : Post} (hL : ∀ listed a w, C w → L listed a → wpAnyIn (Fw ro) 0 P md ops Q' g listed a w) :
    ∀ (f : Nat) (listed : Array Bool) (a : Act) (w : World), C w → wpAnyT P md ops C n L f listed a → wpAnyIn (Fw ro) 0 P md ops Q' (f + g) listed a w
  | 0, listed, a, w, hw, h => by rw [Nat.zero_add]; exact hL _ _ _ hw h
  | f + 1, listed, a, w, hw, h => by
    rw [show f + 1 + g = (f + g) + 1 by omega]
    exact ⟨fun h0 => absurd h0 h.1, fun i hi => wpOpIn_of_qOp hw (fun a' w' hw' h' => wpAnyIn_of_T hL f _ a' w' hw' h') (h.2 i hi).2⟩

theorem wpAnyT_first {n i : Nat} {oi : Oper} {v : Value} {L : Array Bool → Act → Prop} (hi : ops[i]? = some oi) (hsel : ∀ (j : Nat) (o : Oper) cs b, ops[j]? = some o → o.op ≠ .select cs b)
    (hs : Region.sinkB md ops n = true) (hc : Region.chainB md ops n = true) (hn : n < ops.size) (hin : i < n) (hdone : ∀ listed a, L listed a → ∀ j ∈ Region.ready md ops listed, n ≤ j) :
    ∀ (f : Nat) (listed : Array Bool) (a : Act), HeadInv md ops n listed →
      (∀ j oj, ops[j]? = some oj → j ≠ i → listed.getD j true = false → (∀ e ∈ oj.after, Region.binds md e = true → e.on ≠ i) → oi.apart ops oj = true) →
      i ∈ Region.ready md ops listed → YieldsIn P ops C oi v a →
      wpAnyT P md ops C n L f (listed.setIfInBounds i true) (a.put oi.dst v) → wpAnyT P md ops C n L (f + 1) listed a := by
  intro f
  induction f with
  | zero =>
    intro listed a inv _ hr hy hh
    have hun := (mem_ready.1 hr).1
    refine ⟨fun h => (by rw [h] at hr; cases hr), fun j hj => ?_⟩
    have hjn : j < n := by
      rcases Nat.lt_or_ge j n with h | h
      · exact h
      · exact absurd hj (tail_waits hs hc hn inv _ i rfl hin hun j h)
    refine ⟨hjn, ?_⟩
    by_cases hji : j = i
    · subst hji; exact hy.qOp hi hh
    · have := hdone _ _ hh j (ready_mono hj hji)
      omega
  | succ f ih =>
    intro listed a inv hfree hr hy hh
    have hun := (mem_ready.1 hr).1
    refine ⟨fun h => (by rw [h] at hr; cases hr), fun j hj => ?_⟩
    have hjn : j < n := by
      rcases Nat.lt_or_ge j n with h | h
      · exact h
      · exact absurd hj (tail_waits hs hc hn inv _ i rfl hin hun j h)
    refine ⟨hjn, ?_⟩
    by_cases hji : j = i
    · subst hji; exact hy.qOp hi hh
    · have h1 := (hh.2 j (ready_mono hj hji)).2
      obtain ⟨hjun, oj, hoj, hall⟩ := mem_ready.1 hj
      have hnot : ∀ e ∈ oj.after, Region.binds md e = true → e.on ≠ i := fun e he hb heq => by
        have h1 := hall e he hb
        rw [heq, getD_both hun] at h1
        cases h1
      have h2 := qOp_put hoj (hfree j oj hoj hji hjun hnot) (fun cs b => hsel i oi cs b hi) (fun cs b => hsel j oj cs b hoj) hy h1
      have hfree' : ∀ k ok, ops[k]? = some ok → k ≠ i → (listed.setIfInBounds j true).getD k true = false →
          (∀ e ∈ ok.after, Region.binds md e = true → e.on ≠ i) → oi.apart ops ok = true := fun k ok hk hki hun hno => by
        refine hfree k ok hk hki ?_ hno
        by_cases hjk : j = k
        · subst hjk; exact hjun
        · rw [getD_set_ne true hjk] at hun; exact hun
      refine qOp_mono (fun a' h3 => ih (listed.setIfInBounds j true) a' (inv.set hj hjn) hfree' (ready_mono hr (Ne.symm hji)) h3.1 ?_) h2
      rw [Array.setIfInBounds_comm _ _ hji]
      exact h3.2

theorem wpAnyIn_of_seq {Q' : Post} : ∀ (l : List Oper) (k : Nat) (listed : Array Bool) (a : Act) (w : World), (∀ j, l[j]? = ops[k + j]?) →
    Region.seqB md ops l.length k listed = true → wpListIn (Fw ro) 0 P ops Q' l a w → wpAnyIn (Fw ro) 0 P md ops Q' l.length listed a w
  | [], _, _, _, _, _, hB, h => ⟨by simpa [Region.seqB] using hB, h⟩
  | o :: l, k, listed, a, w, hl, hB, h => by
    have h0 : ops[k]? = some o := by simpa using (hl 0).symm
    simp only [List.length_cons, Region.seqB, Bool.and_eq_true, decide_eq_true_eq] at hB
    refine ⟨fun h1 => (by rw [hB.1] at h1; cases h1), fun i hi => ?_⟩
    rw [hB.1] at hi
    have hik : i = k := by simpa using hi
    subst hik
    have hw : wpOpIn (Fw ro) 0 P ops Q' i (wpListIn (Fw ro) 0 P ops Q' l) a w := by unfold wpOpIn; simp only [h0]; exact h
    exact wpOpIn_mono (fun a' w' h' => wpAnyIn_of_seq l (i + 1) _ a' w' (fun j => by have := hl (j + 1); simpa [Nat.add_assoc, Nat.add_comm 1 j] using this) hB.2 h') hw

theorem wpAnyT_lex {n g : Nat} {Lq : Act → Prop} (hsel : Region.noSelect ops = true) (hs : Region.sinkB md ops n = true) (hc : Region.chainB md ops n = true) (hn : n < ops.size) :
    ∀ (l : List Oper) (k : Nat) (listed : Array Bool) (a : Act), (∀ j, j < l.length → l[j]? = ops[k + j]?) → k + l.length = n → HeadInv md ops n listed →
    Region.lexHead md ops g l.length k listed = true → wpQuiet P ops C Lq l a →
    wpAnyT P md ops C n (fun listed' a' => Region.seqB md ops g n listed' = true ∧ Lq a') l.length listed a
  | [], k, listed, a, _, hk, _, hB, h => by
    have : k = n := by simpa using hk
    subst this
    exact ⟨by simpa [Region.lexHead] using hB, h⟩
  | o :: l, k, listed, a, hl, hk, inv, hB, h => by
    have h0 : ops[k]? = some o := by simpa using (hl 0 (by simp)).symm
    simp only [List.length_cons, Region.lexHead, Bool.and_eq_true] at hB
    obtain ⟨⟨hr, hf⟩, hB'⟩ := hB
    have hkn : k < n := by simp only [List.length_cons] at hk; omega
    have hr' : k ∈ Region.ready md ops listed := by simpa using hr
    have hst : qOp P ops C k (wpQuiet P ops C Lq l) a := by unfold qOp; simp only [h0]; exact h
    obtain ⟨v, hy, hK⟩ := yieldsIn_of_qOp h0 hst
    exact wpAnyT_first h0 (Region.noSelect_spec hsel) hs hc hn hkn (fun listed' a' hL => seqB_ready hL.1) l.length listed a inv (Region.free_spec h0 hf) hr' hy
      (wpAnyT_lex hsel hs hc hn l (k + 1) _ _ (fun j hj => by have := hl (j + 1) (by simp; omega); simpa [Nat.add_assoc, Nat.add_comm 1 j] using this) (by simp only [List.length_cons] at hk; omega) (inv.set hr' hkn) hB' hK)

theorem region_tail {id : Nat} {Q : Post} {a : Act} {w : World} [hm : Mixed P] {l : List Oper} (n : Nat) (hB : Region.lexTailB .any l.toArray n = true) (hC : C w.drew)
    (h : wpQuiet P l.toArray C (fun a' => ∀ w', C w' → wpListIn (Fw ro) 0 P l.toArray Q (l.drop n) a' w') (l.take n) a) : (Code.region id l.toArray true).wpIn (Fw ro) 0 P Q a w := by
  simp only [Region.lexTailB, Bool.and_eq_true, decide_eq_true_eq] at hB
  obtain ⟨⟨⟨⟨hsel, hn⟩, hs⟩, hc⟩, hlex⟩ := hB
  have hn' : n < l.length := by simpa using hn
  have htl : (l.take n).length = n := by simp; omega
  have hdl : (l.drop n).length = l.toArray.size - n := by simp
  have inv0 : HeadInv .any l.toArray n (Array.replicate l.toArray.size false) :=
    ⟨by simp, fun j oj _ hl => (by rw [getD_replicate_false] at hl; cases hl), fun t _ ht => getD_in (by simpa using ht) (getD_replicate_false _ _)⟩
  have hh := wpAnyT_lex (C := C) (P := P) (md := .any) (g := l.toArray.size - n) hsel hs hc hn (l.take n) 0 _ a (fun j hj => by
    have hj' : j < n := by rw [htl] at hj; exact hj
    simp [hj']) (by simpa using htl) inv0 (by rw [htl]; exact hlex) h
  refine wpIn_region_any hm.h ?_
  have := wpAnyIn_of_T (ro := ro) (Q' := Q) (g := l.toArray.size - n) (fun listed a' w' hw' hL => by
    have := wpAnyIn_of_seq (ro := ro) (P := P) (md := .any) (Q' := Q) (l.drop n) n listed a' w' (fun j => by simp [List.getElem?_drop]) (by rw [hdl]; exact hL.1) (hL.2 w' hw')
    rwa [hdl] at this) _ _ _ _ hC hh
  rw [htl, show n + (l.toArray.size - n) = l.toArray.size by omega] at this
  exact this
end

section
variable {X : Cx} {e : Env} {l : List (Nat × Obj)} {H : Hp} {D : List Deferred} {P : Program} {k : List It} {all : Array Oper}
/-- The walk of a region whose operations only yield values. -/
def TQ (P : Program) (X : Cx) (e : Env) (l : List (Nat × Obj)) (H : Hp) (D : List Deferred) (all : Array Oper) (rest : List Oper) (k : List It) : Prop :=
  ∀ a, Ea X e D a → wpQuiet P all (Wd X l H) (fun a' => ∀ w', Wd X l H w' → wpK P X.ro X.Q k .normal a' w') rest a

theorem T.regionQ {id : Nat} {os : List Oper} [Mixed P] (hB : Region.lexB .any os.toArray = true) (h : TQ P X e l H D os.toArray os k) : T P X e l H D (.code (.region id os.toArray true) :: k) :=
  T.mk fun a w ha hw => region_quiet (C := Wd X l H) hB hw.drew (h a ha)
theorem T.regionT {id : Nat} {os : List Oper} [Mixed P] (n : Nat) (hB : Region.lexTailB .any os.toArray n = true) (h : TQ P X e l H D os.toArray (os.take n) (.ops os.toArray (os.drop n) :: k)) : T P X e l H D (.code (.region id os.toArray true) :: k) :=
  T.mk fun a w ha hw => region_tail (C := Wd X l H) n hB hw.drew (h a ha)
theorem TQ.nil (h : T P X e l H D k) : TQ P X e l H D all [] k := fun a ha w' hw' => h.get a w' ha hw'
theorem TQ.pv {rest : List Oper} {o : Oper} {v : Value} {d : Nat} (hv : PV P e l H o v) (hw : Wanted e all o) (hd : o.dst = some d) (hN : Nat.blt d X.N = true)
    (h : TQ P X ((d, v) :: e) l H D all rest k) : TQ P X e l H D all (o :: rest) k := fun a ha => by
  show if _ then _ else _
  rw [if_pos (hw.get X D a ha)]
  refine ⟨v, fun w hw' => ?_, ?_⟩
  · unfold Oper.quietAt
    rw [hv.get X D a w ha hw']
    exact ⟨rfl, rfl⟩
  · rw [hd]; exact h _ (ha.put (by simpa using hN) v)
theorem TQ.pass {rest : List Oper} {o : Oper} {d : Nat} (hw : Unwanted e all o) (hd : o.dst = some d) (hN : Nat.blt d X.N = true)
    (h : TQ P X ((d, undef) :: e) l H D all rest k) : TQ P X e l H D all (o :: rest) k := fun a ha => by
  show if _ then _ else _
  rw [if_neg (by rw [hw.get X D a ha]; simp), hd]
  exact h _ (ha.put (by simpa using hN) undef)
theorem TQ.callV {rest : List Oper} {ty : TypeId} {pos : String} {after : Array Edge} {gd : Option (Nat × Bool)} {d : Nat} {f : FuncId} [hE : Ent P f] {xs : List Operand} {ts : Array TypeId} {vs : List Value} {v : Value} (hw : Wanted e all ⟨some d, .call ⟨.value (.func f), xs.toArray, ts⟩, ty, pos, after, gd⟩) (hN : Nat.blt d X.N = true)
    (hv : evL e xs = some vs) (hf : Fn P f vs.toArray H (fun u _ => u = v))
    (h : TQ P X ((d, v) :: e) l H D all rest k) :
    TQ P X e l H D all (⟨some d, .call ⟨.value (.func f), xs.toArray, ts⟩, ty, pos, after, gd⟩ :: rest) k := fun a ha => by
  show if _ then _ else _
  rw [if_pos (hw.get X D a ha)]
  refine ⟨v, fun w hw' => ?_, h _ (ha.put (by simpa using hN) v)⟩
  have hrun : (execOp a.eval ⟨some d, .call ⟨.value (.func f), xs.toArray, ts⟩, ty, pos, after, gd⟩).run P w = .ok (.enter f vs.toArray) w := by
    have := evL_map ha xs vs hv
    have hE' := hE.h (xs.map a.eval).toArray w
    rw [this] at hE'
    simp [execOp, resolve, Act.eval, Deferred.ofValue, invoke, List.map_toArray, this, hE']
  unfold Oper.quietAt
  rw [hrun]
  refine ⟨rfl, (callsIn_wide.1 (hf.get w hw'.fro)).mono ?_⟩
  rintro en w' ⟨u, H', rfl, h2, h3, h4, rfl⟩
  exact ⟨rfl, hw'.callV h4⟩
/-! #### what a slot's Bool is -/
theorem Ea.over {X : Cx} {e : Env} {D : List Deferred} {a : Act} {d : Nat} {v : Value} (ha : Ea X e D a) (hg : e.get d = some v) : Ea X ((d, v) :: e) D a := ⟨ha.size, fun i u hi => by
  simp only [Env.get] at hi
  by_cases e1 : Nat.beq i d = true
  · rw [e1] at hi
    simp only [cond_true, Option.some.injEq] at hi
    rw [Nat.eq_of_beq_eq_true e1, ← hi]
    exact ha.get d v hg
  · have e2 : Nat.beq i d = false := Bool.eq_false_iff.2 e1
    rw [e2] at hi
    exact ha.get i u hi, ha.dfr⟩
theorem T.over {d : Nat} {v : Value} (hg : e.get d = some v) (h : T P X ((d, v) :: e) l H D k) : T P X e l H D k := T.mk fun a w ha hw => h.get a w (ha.over hg) hw
theorem TQ.over {d : Nat} {v : Value} {rest : List Oper} (hg : e.get d = some v) (h : TQ P X ((d, v) :: e) l H D all rest k) : TQ P X e l H D all rest k := fun a ha => h a (ha.over hg)
theorem T.splitB {d : Nat} {b : Bool} (hg : e.get d = some (.bool b)) (ht : b = true → T P X ((d, .bool true) :: e) l H D k) (hf : b = false → T P X ((d, .bool false) :: e) l H D k) : T P X e l H D k := by
  cases b
  · exact T.over hg (hf rfl)
  · exact T.over hg (ht rfl)
theorem TQ.splitB {d : Nat} {b : Bool} {rest : List Oper} (hg : e.get d = some (.bool b)) (ht : b = true → TQ P X ((d, .bool true) :: e) l H D all rest k) (hf : b = false → TQ P X ((d, .bool false) :: e) l H D all rest k) : TQ P X e l H D all rest k := by
  cases b
  · exact TQ.over hg (hf rfl)
  · exact TQ.over hg (ht rfl)
theorem T.splitD {d : Nat} {p : Prop} {i : Decidable p} (hg : e.get d = some (.bool (decide p))) (ht : p → T P X ((d, .bool true) :: e) l H D k) (hf : ¬ p → T P X ((d, .bool false) :: e) l H D k) : T P X e l H D k :=
  T.splitB hg (fun h => ht (of_decide_eq_true h)) (fun h => hf (of_decide_eq_false h))
theorem TQ.splitD {d : Nat} {p : Prop} {i : Decidable p} {rest : List Oper} (hg : e.get d = some (.bool (decide p))) (ht : p → TQ P X ((d, .bool true) :: e) l H D all rest k) (hf : ¬ p → TQ P X ((d, .bool false) :: e) l H D all rest k) : TQ P X e l H D all rest k :=
  TQ.splitB hg (fun h => ht (of_decide_eq_true h)) (fun h => hf (of_decide_eq_false h))
theorem T.setT {d : Nat} {p : Prop} {i : Decidable p} (hg : e.get d = some (.bool (decide p))) (hp : p) (h : T P X ((d, .bool true) :: e) l H D k) : T P X e l H D k := T.over hg (by rw [decide_eq_true hp]; exact h)
theorem T.setF {d : Nat} {p : Prop} {i : Decidable p} (hg : e.get d = some (.bool (decide p))) (hp : ¬ p) (h : T P X ((d, .bool false) :: e) l H D k) : T P X e l H D k := T.over hg (by rw [decide_eq_false hp]; exact h)
theorem TQ.setT {d : Nat} {p : Prop} {i : Decidable p} {rest : List Oper} (hg : e.get d = some (.bool (decide p))) (hp : p) (h : TQ P X ((d, .bool true) :: e) l H D all rest k) : TQ P X e l H D all rest k := TQ.over hg (by rw [decide_eq_true hp]; exact h)
theorem TQ.setF {d : Nat} {p : Prop} {i : Decidable p} {rest : List Oper} (hg : e.get d = some (.bool (decide p))) (hp : ¬ p) (h : TQ P X ((d, .bool false) :: e) l H D all rest k) : TQ P X e l H D all rest k := TQ.over hg (by rw [decide_eq_false hp]; exact h)
attribute [irreducible] TQ
end

end Go.Proofs.Ytceaicameojcaaa
