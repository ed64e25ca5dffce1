/- interval: the law Covers. -/
import Derived.Test.YtapakgncdmmmaaaI14
namespace Go.Proofs.Ytapakgncdmmmaaa
open Go.RowKit

def passL (l : List Sp) (x : Int) : Int := l.foldl (fun x t => if t.1 ≤ x ∧ x < t.2 then t.2 else x) x
def roundsL (l : List Sp) : Nat → Int → Int
  | 0, x => x
  | n + 1, x => passL l (roundsL l n x)
theorem passL_snoc {l : List Sp} {i : Nat} {t : Sp} (h : l[i]? = some t) (x : Int) : passL (l.take (i + 1)) x = if t.1 ≤ passL (l.take i) x ∧ passL (l.take i) x < t.2 then t.2 else passL (l.take i) x := by
  unfold passL
  rw [List.take_add_one, h, Option.toList_some, List.foldl_append]; rfl
theorem pass_spec (p : Sp) : ∀ (m : List Sp) (x : Int), (∀ t ∈ m, ∀ y, p.1 ≤ y → y ≤ p.2 → t.1 ≤ y → y < t.2 → t.2 ≤ p.2) → p.1 ≤ x → x ≤ p.2 →
    x ≤ passL m x ∧ passL m x ≤ p.2 ∧ ∀ t ∈ m, t.1 ≤ x → t.2 ≤ passL m x
  | [], x, _, _, h2 => ⟨Int.le_refl _, h2, by simp⟩
  | t :: m, x, hF, h1, h2 => by
    have e : passL (t :: m) x = passL m (if t.1 ≤ x ∧ x < t.2 then t.2 else x) := rfl
    rw [e]
    have hF' : ∀ t ∈ m, ∀ y, p.1 ≤ y → y ≤ p.2 → t.1 ≤ y → y < t.2 → t.2 ≤ p.2 := fun u hu => hF u (List.mem_cons_of_mem _ hu)
    by_cases hc : t.1 ≤ x ∧ x < t.2
    · rw [if_pos hc]
      have h3 := hF t List.mem_cons_self x h1 h2 hc.1 hc.2
      obtain ⟨k1, k2, k3⟩ := pass_spec p m t.2 hF' (by omega) h3
      refine ⟨by omega, k2, fun u hu hux => ?_⟩
      rcases List.mem_cons.1 hu with rfl | hu
      · exact k1
      · exact k3 u hu (by omega)
    · rw [if_neg hc]
      obtain ⟨k1, k2, k3⟩ := pass_spec p m x hF' h1 h2
      refine ⟨k1, k2, fun u hu hux => ?_⟩
      rcases List.mem_cons.1 hu with rfl | hu
      · omega
      · exact k3 u hu hux
theorem countP_lt {α : Type} {p q : α → Bool} {x : α} : ∀ (l : List α), (∀ y ∈ l, p y = true → q y = true) → x ∈ l → p x = false → q x = true → l.countP p < l.countP q
  | [], _, hx, _, _ => by cases hx
  | y :: l, h, hx, h1, h2 => by
    have hm : l.countP p ≤ l.countP q := List.countP_mono_left fun z hz => h z (List.mem_cons_of_mem _ hz)
    rw [List.countP_cons, List.countP_cons]
    rcases List.mem_cons.1 hx with rfl | hx
    · rw [h1, h2]; simp; omega
    · have := countP_lt l (fun z hz => h z (List.mem_cons_of_mem _ hz)) hx h1 h2
      have hy := h y List.mem_cons_self
      cases hp : p y with
      | true => rw [hy hp]; simp; omega
      | false => cases q y <;> simp <;> omega
theorem pair_two {α : Type} {R : α → α → Prop} : ∀ {l : List α}, l.Pairwise R → ∀ {a b : α}, a ∈ l → b ∈ l → a = b ∨ R a b ∨ R b a
  | x :: l, h, a, b, ha, hb => by
    have h' := List.pairwise_cons.1 h
    rcases List.mem_cons.1 ha with ha1 | ha1
    · rcases List.mem_cons.1 hb with hb1 | hb1
      · exact .inl (ha1.trans hb1.symm)
      · exact .inr (.inl (by rw [ha1]; exact h'.1 b hb1))
    · rcases List.mem_cons.1 hb with hb1 | hb1
      · exact .inr (.inr (by rw [hb1]; exact h'.1 a ha1))
      · exact pair_two h'.2 ha1 hb1
theorem rounds_ok {c n l : List Sp} (h : CovOk c n) (hn : ∀ t, t ∈ n ↔ t ∈ l) {p : Sp} (hp : p ∈ c) : roundsL l l.length p.1 = p.2 := by
  have hpv := h.val p hp
  have hF : ∀ t ∈ l, ∀ y, p.1 ≤ y → y ≤ p.2 → t.1 ≤ y → y < t.2 → t.2 ≤ p.2 := by
    intro t ht y h1 h2 h3 h4
    obtain ⟨q, hq, q1, q2⟩ := h.inn t ((hn t).2 ht)
    rcases pair_two h.apart hp hq with rfl | h5 | h5
    · exact q2
    · omega
    · omega
  have hO : ∀ x, p.1 ≤ x → x < p.2 → ∃ t ∈ l, t.1 ≤ x ∧ x < t.2 := by
    intro x h1 h2
    obtain ⟨t, ht, h3⟩ := h.out p hp x h1 h2
    exact ⟨t, (hn t).1 ht, h3⟩
  have hk : ∀ k, p.1 ≤ roundsL l k p.1 ∧ roundsL l k p.1 ≤ p.2 ∧ (roundsL l k p.1 = p.2 ∨ k ≤ l.countP fun t => decide (t.2 ≤ roundsL l k p.1)) := by
    intro k
    induction k with
    | zero => exact ⟨Int.le_refl _, by show p.1 ≤ p.2; omega, .inr (Nat.zero_le _)⟩
    | succ k ih =>
      obtain ⟨i1, i2, i3⟩ := ih
      have e : roundsL l (k + 1) p.1 = passL l (roundsL l k p.1) := rfl
      rw [e]
      generalize roundsL l k p.1 = x at *
      obtain ⟨s1, s2, s3⟩ := pass_spec p l x hF i1 i2
      refine ⟨by omega, s2, ?_⟩
      by_cases hx : x = p.2
      · left; omega
      · right
        obtain ⟨t, ht, t1, t2⟩ := hO x i1 (by omega)
        have h3 := s3 t ht t1
        have := countP_lt (p := fun t => decide (t.2 ≤ x)) (q := fun t => decide (t.2 ≤ passL l x)) l (fun y _ hy => decide_eq_true (by have := of_decide_eq_true hy; omega)) ht (decide_eq_false (by omega)) (decide_eq_true h3)
        rcases i3 with h4 | h4
        · exact absurd h4 hx
        · omega
  obtain ⟨k1, k2, k3⟩ := hk l.length
  rcases k3 with h1 | h1
  · exact h1
  · generalize roundsL l l.length p.1 = x at *
    by_cases hx : x = p.2
    · exact hx
    · obtain ⟨t, ht, t1, t2⟩ := hO x k1 (by omega)
      have hle : l.countP (fun t => decide (t.2 ≤ x)) = l.length := Nat.le_antisymm List.countP_le_length h1
      have := of_decide_eq_true (List.countP_eq_length.1 hle t ht)
      omega
set_option maxHeartbeats 8000000 in
theorem covers_fn (l : List Sp) (v : Value) (H : Hp) (hv : SpL H v l) (hl : l.length ≤ maxLen) : Fn Try.prog 7 #[v] H (fun v _ => v = .bool true) := by
  obtain ⟨ad, cap, rfl⟩ := hv.len
  refine Fn.of_T (vs := [.slice ad l.length cap]) Try.func7 rfl rfl fun w => ?_
  refine T.seq ?_
  refine T.region ?_
  refine T.pv (PV.assign rfl) Wanted.none rfl rfl ?_
  refine T.opsNil ?_
  refine T.seq ?_
  refine T.region ?_
  refine T.pv (PV.move rfl) Wanted.none rfl rfl ?_
  refine T.call Wanted.none rfl rfl (coverC_fn l _ H hv hl) ?_
  rintro _ H1 hle1 ⟨r, rfl, hr⟩
  have hv1 := hv.mono hle1
  refine T.pv (PV.move rfl) Wanted.none rfl rfl ?_
  refine T.pv (PV.extract rfl rfl) Wanted.none rfl rfl ?_
  refine T.pv (PV.extract rfl rfl) Wanted.none rfl rfl ?_
  refine T.pv (PV.assign rfl) Wanted.none rfl rfl ?_
  refine T.pv (PV.assign rfl) Wanted.none rfl rfl ?_
  refine T.opsNil ?_
  refine T.seq ?_
  refine T.seq ?_
  refine T.region ?_
  refine T.pv (PV.move rfl) Wanted.none rfl rfl ?_
  (refine T.buildSlice Wanted.none rfl rfl (by repeat (first | exact FillAll.nil | (apply FillAll.cons; (first | exact CellsR.one rfl | exact CellsR.agg); exact rfl))) (by exact rfl) (by exact rfl) ?_; intro b20)
  refine T.freezeLit ?_
  intro H2 hle2 hH2
  have hv2 := hv1.mono hle2
  have hr2 := hr.mono hle2
  have hg := long1 hH2 hv2 hl
  by_cases h60 : 60 < l.length
  · rw [decide_eq_true h60] at hg
    refine T.callV Wanted.none rfl rfl (hg) ?_
    refine T.pv (PV.move rfl) Wanted.none rfl rfl ?_
    refine T.pass (Unwanted.guard rfl rfl rfl) rfl rfl ?_
    refine T.pass (Unwanted.guard rfl rfl rfl) rfl rfl ?_
    refine T.pv (PV.pickT rfl rfl rfl) Wanted.none rfl rfl ?_
    refine T.opsNil ?_
    refine T.condT rfl rfl ?_
    refine T.seq ?_
    refine T.region ?_
    refine T.pv (PV.assign rfl) Wanted.none rfl rfl ?_
    refine T.opsNil ?_
    exact T.retF (Lv.fin (RV.tmp rfl rfl) rfl)
  rw [decide_eq_false h60] at hg
  by_cases hc : chk1 l = 0
  · obtain ⟨_, hok⟩ := chk1_zero hc
    rw [if_pos hc] at hr2
    rw [hc]
    have hnok : ∀ s ∈ normS l, 0 ≤ s.1 ∧ s.1 < s.2 := fun s hs => hok s ((normS_mem l s).1 hs)
    have hcov := covL_ok (fun s hs => (hnok s hs).2) (sortedS_fst (normS_sorted l))
    have hnl := normS_len l
    have hcl := covL_len2 (normS l)
    have hcin : ∀ s ∈ l, inW (normS (covL (normS l))) s = true := by
      intro s hs
      obtain ⟨p, hp, h1, h2⟩ := hcov.inn s ((normS_mem l s).2 hs)
      exact List.any_eq_true.2 ⟨p, (normS_mem _ p).2 hp, decide_eq_true ⟨h1, h2⟩⟩
    have hc0 : ∀ s ∈ covL (normS l), 0 ≤ s.1 ∧ s.1 < s.2 := by
      intro s hs
      obtain ⟨t, ht, e⟩ := hcov.low s hs
      exact ⟨by have := hnok t ht; omega, hcov.val s hs⟩
    generalize covL (normS l) = c at hr2 hcov hcl hcin hc0
    have hchc : chk1 c = 0 := by
      unfold chk1
      rw [if_neg (by omega), if_pos (show c.all okS = true from List.all_eq_true.2 fun s hs => decide_eq_true (hc0 s hs))]
    obtain ⟨adc, capc, rfl⟩ := hr2.len
    refine T.callV Wanted.none rfl rfl (hg) ?_
    refine T.pv (PV.move rfl) Wanted.none rfl rfl ?_
    refine T.pv (PV.move rfl) (Wanted.guard rfl rfl rfl) rfl rfl ?_
    refine T.pv (PV.neq rfl rfl) (Wanted.guard rfl rfl rfl) rfl rfl ?_
    refine T.pv (PV.pickF rfl rfl rfl) Wanted.none rfl rfl ?_
    refine T.opsNil ?_
    refine T.condF rfl rfl ?_
    refine T.skip ?_
    refine T.seq ?_
    refine T.seq ?_
    refine T.region ?_
    refine T.pv (PV.move rfl) Wanted.none rfl rfl ?_
    refine T.pv (PV.lenSl rfl) Wanted.none rfl rfl ?_
    refine T.pv (PV.move rfl) Wanted.none rfl rfl ?_
    refine T.opsNil ?_
    refine T.block ?_
    refine T.loop (γ := Nat) (fun i => i ≤ c.length)
      (fun i => [(28, .int .i64 (i : Int)), (27, .int .i64 (c.length : Int)), (26, .slice adc c.length capc), (3, .slice adc c.length capc), (0, .slice ad l.length cap)])
      (fun _ => []) (fun _ => H2) (fun i => c.length - i) 0 (by omega) (by repeat (first | exact trivial | refine And.intro rfl ?_)) (by repeat (first | exact List.Sublist.slnil | exact List.nil_sublist _ | exact List.Sublist.refl _ | exact List.sublist_append_left _ [] | apply List.Sublist.cons_cons | apply List.Sublist.cons | refine List.Sublist.append_left ?_ _ | refine List.sublist_append_of_sublist_right ?_)) rfl ?_
    intro i hi0
    by_cases hi : i < c.length
    · obtain ⟨s, hs⟩ : ∃ x, c[i]? = some x := ⟨_, List.getElem?_eq_getElem hi⟩
      obtain ⟨bc, offc, rfl, hsubc⟩ := SlR.span hr2 hs
      have hsc := List.mem_of_getElem? hs
      have hs0 := hc0 s hsc
      have hro := rounds_ok hcov (normS_mem l) hsc
      refine T.seq ?_
      refine T.region ?_
      refine T.pv (PV.lss rfl rfl) Wanted.none rfl rfl ?_
      refine T.opsNil ?_
      refine T.seq ?_
      refine T.condT rfl (decide_eq_true (by omega)) ?_
      refine T.skip ?_
      refine T.seq ?_
      refine T.block ?_
      refine T.seq ?_
      refine T.region ?_
      refine T.pv (PV.move rfl) Wanted.none rfl rfl ?_
      refine T.pv (PV.indexAddr rfl rfl (by omega)) Wanted.none rfl rfl ?_
      refine T.pv (PV.loadSubAll rfl (by assumption) (by exact rfl)) Wanted.none rfl rfl ?_
      (refine T.alloc Wanted.none rfl ?_; intro b6)
      refine T.pv (PV.assign rfl) Wanted.none rfl rfl ?_
      refine T.storeA Wanted.none rfl rfl (by repeat (first | exact trivial | refine And.intro rfl ?_)) (by exact rfl) (by repeat (first | exact Upd.head | apply Upd.tail | apply Upd.app)) (by repeat (first | exact Splice.nil | apply Splice.cons | apply Splice.skip)) ?_
      refine T.opsNil ?_
      refine T.seq ?_
      refine T.seq ?_
      refine T.cut2 [(5, .int .i64 (i : Int)), (28, .int .i64 (i : Int)), (27, .int .i64 (c.length : Int)), (26, .slice (some ⟨bc, offc, none⟩) c.length capc), (3, .slice (some ⟨bc, offc, none⟩) c.length capc), (0, .slice ad l.length cap), (6, .pointer (some ⟨b6, 0, none⟩))] [(b6, .cells #[.int .i64 s.1, .int .i64 s.2] 23 (0, 0))] ?_ fun K => ?_
      rotate_left
      · by_cases h0 : i = 0
        · subst h0
          refine T.regionQ (by kernel_rfl) ?_
          refine TQ.pv (PV.fieldAddr rfl) Wanted.none rfl rfl ?_
          refine TQ.pv (PV.load1 rfl (by first | exact .fro (by assumption) | exact .own (by repeat (first | exact List.Mem.head _ | apply List.Mem.tail | apply List.mem_append_right))) rfl) Wanted.none rfl rfl ?_
          refine TQ.pv (PV.lss rfl rfl) Wanted.none rfl rfl ?_
          refine TQ.pv (PV.move rfl) Wanted.none rfl rfl ?_
          refine TQ.setF (d := 36) rfl (by omega) ?_
          refine TQ.pv (PV.fieldAddr rfl) (Wanted.guard rfl rfl rfl) rfl rfl ?_
          refine TQ.pv (PV.load1 rfl (by first | exact .fro (by assumption) | exact .own (by repeat (first | exact List.Mem.head _ | apply List.Mem.tail | apply List.mem_append_right))) rfl) (Wanted.guard rfl rfl rfl) rfl rfl ?_
          refine TQ.pv (PV.fieldAddr rfl) (Wanted.guard rfl rfl rfl) rfl rfl ?_
          refine TQ.pv (PV.load1 rfl (by first | exact .fro (by assumption) | exact .own (by repeat (first | exact List.Mem.head _ | apply List.Mem.tail | apply List.mem_append_right))) rfl) (Wanted.guard rfl rfl rfl) rfl rfl ?_
          refine TQ.pv (PV.geq rfl rfl) (Wanted.guard rfl rfl rfl) rfl rfl ?_
          refine TQ.pv (PV.pickF rfl rfl rfl) Wanted.none rfl rfl ?_
          refine TQ.pv (PV.move rfl) Wanted.none rfl rfl ?_
          refine TQ.setF (d := 43) rfl (by omega) ?_
          refine TQ.pv (PV.move rfl) (Wanted.guard rfl rfl rfl) rfl rfl ?_
          refine TQ.pv (PV.gtr rfl rfl) (Wanted.guard rfl rfl rfl) rfl rfl ?_
          refine TQ.pv (PV.move rfl) (Wanted.guard rfl rfl rfl) rfl rfl ?_
          refine TQ.pass (Unwanted.guard rfl rfl rfl) rfl rfl ?_
          refine TQ.pass (Unwanted.guard rfl rfl rfl) rfl rfl ?_
          refine TQ.pass (Unwanted.guard rfl rfl rfl) rfl rfl ?_
          refine TQ.pass (Unwanted.guard rfl rfl rfl) rfl rfl ?_
          refine TQ.pass (Unwanted.guard rfl rfl rfl) rfl rfl ?_
          refine TQ.pass (Unwanted.guard rfl rfl rfl) rfl rfl ?_
          refine TQ.pass (Unwanted.guard rfl rfl rfl) rfl rfl ?_
          refine TQ.pass (Unwanted.guard rfl rfl rfl) rfl rfl ?_
          refine TQ.pass (Unwanted.guard rfl rfl rfl) rfl rfl ?_
          refine TQ.pv (PV.pickF rfl rfl rfl) (Wanted.guard rfl rfl rfl) rfl rfl ?_
          refine TQ.pv (PV.pickF rfl rfl rfl) Wanted.none rfl rfl ?_
          refine TQ.nil ?_
          refine T.condF rfl rfl ?_
          refine T.skip ?_
          exact K _ _ (by repeat (first | exact trivial | refine And.intro rfl ?_)) (by repeat (first | exact List.Sublist.slnil | exact List.nil_sublist _ | exact List.Sublist.refl _ | exact List.sublist_append_left _ [] | apply List.Sublist.cons_cons | apply List.Sublist.cons | refine List.Sublist.append_left ?_ _ | refine List.sublist_append_of_sublist_right ?_))
        · obtain ⟨q, hq⟩ : ∃ x, c[i - 1]? = some x := ⟨_, List.getElem?_eq_getElem (by omega)⟩
          obtain ⟨bq, offq, hqe, hsubq⟩ := SlR.span hr2 hq
          injection hqe with e1
          injection e1 with e1 e2
          subst e1 e2
          have hap : q.2 < s.1 := by
            have := List.pairwise_iff_getElem.1 hcov.apart (i - 1) i (by omega) hi (by omega)
            rw [(List.getElem?_eq_some_iff.1 hq).2, (List.getElem?_eq_some_iff.1 hs).2] at this
            exact this
          rw [show i - 1 = ((i : Int) - 1).toNat by omega] at hsubq
          refine T.regionQ (by kernel_rfl) ?_
          refine TQ.pv (PV.fieldAddr rfl) Wanted.none rfl rfl ?_
          refine TQ.pv (PV.load1 rfl (by first | exact .fro (by assumption) | exact .own (by repeat (first | exact List.Mem.head _ | apply List.Mem.tail | apply List.mem_append_right))) rfl) Wanted.none rfl rfl ?_
          refine TQ.pv (PV.lss rfl rfl) Wanted.none rfl rfl ?_
          refine TQ.pv (PV.move rfl) Wanted.none rfl rfl ?_
          refine TQ.setF (d := 36) rfl (by omega) ?_
          refine TQ.pv (PV.fieldAddr rfl) (Wanted.guard rfl rfl rfl) rfl rfl ?_
          refine TQ.pv (PV.load1 rfl (by first | exact .fro (by assumption) | exact .own (by repeat (first | exact List.Mem.head _ | apply List.Mem.tail | apply List.mem_append_right))) rfl) (Wanted.guard rfl rfl rfl) rfl rfl ?_
          refine TQ.pv (PV.fieldAddr rfl) (Wanted.guard rfl rfl rfl) rfl rfl ?_
          refine TQ.pv (PV.load1 rfl (by first | exact .fro (by assumption) | exact .own (by repeat (first | exact List.Mem.head _ | apply List.Mem.tail | apply List.mem_append_right))) rfl) (Wanted.guard rfl rfl rfl) rfl rfl ?_
          refine TQ.pv (PV.geq rfl rfl) (Wanted.guard rfl rfl rfl) rfl rfl ?_
          refine TQ.pv (PV.pickF rfl rfl rfl) Wanted.none rfl rfl ?_
          refine TQ.pv (PV.move rfl) Wanted.none rfl rfl ?_
          refine TQ.setF (d := 43) rfl (by omega) ?_
          refine TQ.pv (PV.move rfl) (Wanted.guard rfl rfl rfl) rfl rfl ?_
          refine TQ.pv (PV.gtr rfl rfl) (Wanted.guard rfl rfl rfl) rfl rfl ?_
          refine TQ.pv (PV.move rfl) (Wanted.guard rfl rfl rfl) rfl rfl ?_
          refine TQ.setT (d := 46) rfl (by omega) ?_
          refine TQ.pv (PV.move rfl) (Wanted.guard rfl rfl rfl) rfl rfl ?_
          refine TQ.pv (PV.move rfl) (Wanted.guard rfl rfl rfl) rfl rfl ?_
          refine TQ.pv (PV.sub rfl rfl (by omega)) (Wanted.guard rfl rfl rfl) rfl rfl ?_
          refine TQ.pv (PV.indexAddr rfl rfl (by omega)) (Wanted.guard rfl rfl rfl) rfl rfl ?_
          refine TQ.pv (PV.fieldAddr rfl) (Wanted.guard rfl rfl rfl) rfl rfl ?_
          refine TQ.pv (PV.loadSub rfl (by assumption) rfl) (Wanted.guard rfl rfl rfl) rfl rfl ?_
          refine TQ.pv (PV.fieldAddr rfl) (Wanted.guard rfl rfl rfl) rfl rfl ?_
          refine TQ.pv (PV.load1 rfl (by first | exact .fro (by assumption) | exact .own (by repeat (first | exact List.Mem.head _ | apply List.Mem.tail | apply List.mem_append_right))) rfl) (Wanted.guard rfl rfl rfl) rfl rfl ?_
          refine TQ.pv (PV.geq rfl rfl) (Wanted.guard rfl rfl rfl) rfl rfl ?_
          refine TQ.pv (PV.pickT rfl rfl rfl) (Wanted.guard rfl rfl rfl) rfl rfl ?_
          refine TQ.pv (PV.pickF rfl rfl rfl) Wanted.none rfl rfl ?_
          refine TQ.nil ?_
          refine T.condF rfl (decide_eq_false (by omega)) ?_
          refine T.skip ?_
          exact K _ _ (by repeat (first | exact trivial | refine And.intro rfl ?_)) (by repeat (first | exact List.Sublist.slnil | exact List.nil_sublist _ | exact List.Sublist.refl _ | exact List.sublist_append_left _ [] | apply List.Sublist.cons_cons | apply List.Sublist.cons | refine List.Sublist.append_left ?_ _ | refine List.sublist_append_of_sublist_right ?_))
      refine T.seq ?_
      refine T.region ?_
      refine T.pv (PV.fieldAddr rfl) Wanted.none rfl rfl ?_
      refine T.pv (PV.load1 rfl (by first | exact .fro (by assumption) | exact .own (by repeat (first | exact List.Mem.head _ | apply List.Mem.tail | apply List.mem_append_right))) rfl) Wanted.none rfl rfl ?_
      refine T.pv (PV.assign rfl) Wanted.none rfl rfl ?_
      refine T.opsNil ?_
      refine T.seq ?_
      refine T.seq ?_
      refine T.region ?_
      refine T.pv (PV.move rfl) Wanted.none rfl rfl ?_
      refine T.pv (PV.lenSl rfl) Wanted.none rfl rfl ?_
      refine T.pv (PV.move rfl) Wanted.none rfl rfl ?_
      refine T.opsNil ?_
      refine T.block ?_
      refine T.loop (γ := Nat) (fun j => j ≤ l.length)
        (fun j => [(62, .int .i64 (j : Int)), (61, .int .i64 (l.length : Int)), (7, .int .i64 (roundsL l j s.1)), (28, .int .i64 (i : Int)), (27, .int .i64 (c.length : Int)), (26, .slice (some ⟨bc, offc, none⟩) c.length capc), (3, .slice (some ⟨bc, offc, none⟩) c.length capc), (0, .slice ad l.length cap), (6, .pointer (some ⟨b6, 0, none⟩))])
        (fun _ => [(b6, .cells #[.int .i64 s.1, .int .i64 s.2] 23 (0, 0))]) (fun _ => H2) (fun j => l.length - j) 0 (by omega) (by repeat (first | exact trivial | refine And.intro rfl ?_)) (by repeat (first | exact List.Sublist.slnil | exact List.nil_sublist _ | exact List.Sublist.refl _ | exact List.sublist_append_left _ [] | apply List.Sublist.cons_cons | apply List.Sublist.cons | refine List.Sublist.append_left ?_ _ | refine List.sublist_append_of_sublist_right ?_)) rfl ?_
      intro j hj0
      by_cases hj : j < l.length
      · refine T.seq ?_
        refine T.region ?_
        refine T.pv (PV.lss rfl rfl) Wanted.none rfl rfl ?_
        refine T.opsNil ?_
        refine T.seq ?_
        refine T.condT rfl (decide_eq_true (by omega)) ?_
        refine T.skip ?_
        refine T.seq ?_
        refine T.block ?_
        refine T.seq ?_
        refine T.region ?_
        refine T.pv (PV.move rfl) Wanted.none rfl rfl ?_
        refine T.pv (PV.lenSl rfl) Wanted.none rfl rfl ?_
        refine T.pv (PV.move rfl) Wanted.none rfl rfl ?_
        refine T.opsNil ?_
        refine T.block ?_
        refine T.loop (γ := Nat) (fun k => k ≤ l.length)
          (fun k => [(66, .int .i64 (k : Int)), (65, .int .i64 (l.length : Int)), (64, .slice ad l.length cap), (62, .int .i64 (j : Int)), (61, .int .i64 (l.length : Int)), (7, .int .i64 (passL (l.take k) (roundsL l j s.1))), (28, .int .i64 (i : Int)), (27, .int .i64 (c.length : Int)), (26, .slice (some ⟨bc, offc, none⟩) c.length capc), (3, .slice (some ⟨bc, offc, none⟩) c.length capc), (0, .slice ad l.length cap), (6, .pointer (some ⟨b6, 0, none⟩))])
          (fun _ => [(b6, .cells #[.int .i64 s.1, .int .i64 s.2] 23 (0, 0))]) (fun _ => H2) (fun k => l.length - k) 0 (by omega) (by repeat (first | exact trivial | refine And.intro rfl ?_)) (by repeat (first | exact List.Sublist.slnil | exact List.nil_sublist _ | exact List.Sublist.refl _ | exact List.sublist_append_left _ [] | apply List.Sublist.cons_cons | apply List.Sublist.cons | refine List.Sublist.append_left ?_ _ | refine List.sublist_append_of_sublist_right ?_)) rfl ?_
        intro k hk0
        by_cases hk : k < l.length
        · obtain ⟨t, ht⟩ : ∃ x, l[k]? = some x := ⟨_, List.getElem?_eq_getElem hk⟩
          obtain ⟨bl, offl, rfl, hsubl⟩ := SlR.span hv2 ht
          have hsn := passL_snoc ht (roundsL l j s.1)
          generalize passL (l.take k) (roundsL l j s.1) = x at *
          by_cases h1 : t.1 ≤ x
          · by_cases h2 : x < t.2
            · rw [if_pos ⟨h1, h2⟩] at hsn
              refine T.seq ?_
              refine T.region ?_
              refine T.pv (PV.lss rfl rfl) Wanted.none rfl rfl ?_
              refine T.opsNil ?_
              refine T.seq ?_
              refine T.condT rfl (decide_eq_true (by omega)) ?_
              refine T.skip ?_
              refine T.seq ?_
              refine T.block ?_
              refine T.seq ?_
              refine T.region ?_
              refine T.pv (PV.indexAddr rfl rfl (by omega)) Wanted.none rfl rfl ?_
              refine T.pv (PV.loadSubAll rfl (by assumption) (by exact rfl)) Wanted.none rfl rfl ?_
              (refine T.alloc Wanted.none rfl ?_; intro b9)
              refine T.storeA Wanted.none rfl rfl (by repeat (first | exact trivial | refine And.intro rfl ?_)) (by exact rfl) (by repeat (first | exact Upd.head | apply Upd.tail | apply Upd.app)) (by repeat (first | exact Splice.nil | apply Splice.cons | apply Splice.skip)) ?_
              refine T.opsNil ?_
              refine T.seq ?_
              refine T.region ?_
              refine T.pv (PV.fieldAddr rfl) Wanted.none rfl rfl ?_
              refine T.pv (PV.load1 rfl (by first | exact .fro (by assumption) | exact .own (by repeat (first | exact List.Mem.head _ | apply List.Mem.tail | apply List.mem_append_right))) rfl) Wanted.none rfl rfl ?_
              refine T.pv (PV.move rfl) Wanted.none rfl rfl ?_
              refine T.pv (PV.leq rfl rfl) Wanted.none rfl rfl ?_
              refine T.pv (PV.move rfl) Wanted.none rfl rfl ?_
              refine T.setT (d := 74) rfl (by omega) ?_
              refine T.pv (PV.move rfl) (Wanted.guard rfl rfl rfl) rfl rfl ?_
              refine T.pv (PV.fieldAddr rfl) (Wanted.guard rfl rfl rfl) rfl rfl ?_
              refine T.pv (PV.load1 rfl (by first | exact .fro (by assumption) | exact .own (by repeat (first | exact List.Mem.head _ | apply List.Mem.tail | apply List.mem_append_right))) rfl) (Wanted.guard rfl rfl rfl) rfl rfl ?_
              refine T.pv (PV.lss rfl rfl) (Wanted.guard rfl rfl rfl) rfl rfl ?_
              refine T.pv (PV.pickT rfl rfl rfl) Wanted.none rfl rfl ?_
              refine T.opsNil ?_
              refine T.condT rfl (decide_eq_true (by omega)) ?_
              refine T.region ?_
              refine T.pv (PV.fieldAddr rfl) Wanted.none rfl rfl ?_
              refine T.pv (PV.load1 rfl (by first | exact .fro (by assumption) | exact .own (by repeat (first | exact List.Mem.head _ | apply List.Mem.tail | apply List.mem_append_right))) rfl) Wanted.none rfl rfl ?_
              refine T.pv (PV.assign rfl) Wanted.none rfl rfl ?_
              refine T.opsNil ?_
              refine T.blkEnd ?_
              refine T.region ?_
              refine T.pv (PV.add rfl rfl (by omega)) Wanted.none rfl rfl ?_
              refine T.pv (PV.move rfl) Wanted.none rfl rfl ?_
              refine T.opsNil ?_
              rw [← hsn]
              exact T.next (k + 1) (by omega) (by omega) (by repeat (first | exact trivial | refine And.intro rfl ?_)) (by repeat (first | exact List.Sublist.slnil | exact List.nil_sublist _ | exact List.Sublist.refl _ | exact List.sublist_append_left _ [] | apply List.Sublist.cons_cons | apply List.Sublist.cons | refine List.Sublist.append_left ?_ _ | refine List.sublist_append_of_sublist_right ?_)) rfl
            · rw [if_neg (by omega)] at hsn
              refine T.seq ?_
              refine T.region ?_
              refine T.pv (PV.lss rfl rfl) Wanted.none rfl rfl ?_
              refine T.opsNil ?_
              refine T.seq ?_
              refine T.condT rfl (decide_eq_true (by omega)) ?_
              refine T.skip ?_
              refine T.seq ?_
              refine T.block ?_
              refine T.seq ?_
              refine T.region ?_
              refine T.pv (PV.indexAddr rfl rfl (by omega)) Wanted.none rfl rfl ?_
              refine T.pv (PV.loadSubAll rfl (by assumption) (by exact rfl)) Wanted.none rfl rfl ?_
              (refine T.alloc Wanted.none rfl ?_; intro b9)
              refine T.storeA Wanted.none rfl rfl (by repeat (first | exact trivial | refine And.intro rfl ?_)) (by exact rfl) (by repeat (first | exact Upd.head | apply Upd.tail | apply Upd.app)) (by repeat (first | exact Splice.nil | apply Splice.cons | apply Splice.skip)) ?_
              refine T.opsNil ?_
              refine T.seq ?_
              refine T.region ?_
              refine T.pv (PV.fieldAddr rfl) Wanted.none rfl rfl ?_
              refine T.pv (PV.load1 rfl (by first | exact .fro (by assumption) | exact .own (by repeat (first | exact List.Mem.head _ | apply List.Mem.tail | apply List.mem_append_right))) rfl) Wanted.none rfl rfl ?_
              refine T.pv (PV.move rfl) Wanted.none rfl rfl ?_
              refine T.pv (PV.leq rfl rfl) Wanted.none rfl rfl ?_
              refine T.pv (PV.move rfl) Wanted.none rfl rfl ?_
              refine T.setT (d := 74) rfl (by omega) ?_
              refine T.pv (PV.move rfl) (Wanted.guard rfl rfl rfl) rfl rfl ?_
              refine T.pv (PV.fieldAddr rfl) (Wanted.guard rfl rfl rfl) rfl rfl ?_
              refine T.pv (PV.load1 rfl (by first | exact .fro (by assumption) | exact .own (by repeat (first | exact List.Mem.head _ | apply List.Mem.tail | apply List.mem_append_right))) rfl) (Wanted.guard rfl rfl rfl) rfl rfl ?_
              refine T.pv (PV.lss rfl rfl) (Wanted.guard rfl rfl rfl) rfl rfl ?_
              refine T.pv (PV.pickT rfl rfl rfl) Wanted.none rfl rfl ?_
              refine T.opsNil ?_
              refine T.condF rfl (decide_eq_false (by omega)) ?_
              refine T.skip ?_
              refine T.blkEnd ?_
              refine T.region ?_
              refine T.pv (PV.add rfl rfl (by omega)) Wanted.none rfl rfl ?_
              refine T.pv (PV.move rfl) Wanted.none rfl rfl ?_
              refine T.opsNil ?_
              rw [← hsn]
              exact T.next (k + 1) (by omega) (by omega) (by repeat (first | exact trivial | refine And.intro rfl ?_)) (by repeat (first | exact List.Sublist.slnil | exact List.nil_sublist _ | exact List.Sublist.refl _ | exact List.sublist_append_left _ [] | apply List.Sublist.cons_cons | apply List.Sublist.cons | refine List.Sublist.append_left ?_ _ | refine List.sublist_append_of_sublist_right ?_)) rfl
          · rw [if_neg (by omega)] at hsn
            refine T.seq ?_
            refine T.region ?_
            refine T.pv (PV.lss rfl rfl) Wanted.none rfl rfl ?_
            refine T.opsNil ?_
            refine T.seq ?_
            refine T.condT rfl (decide_eq_true (by omega)) ?_
            refine T.skip ?_
            refine T.seq ?_
            refine T.block ?_
            refine T.seq ?_
            refine T.region ?_
            refine T.pv (PV.indexAddr rfl rfl (by omega)) Wanted.none rfl rfl ?_
            refine T.pv (PV.loadSubAll rfl (by assumption) (by exact rfl)) Wanted.none rfl rfl ?_
            (refine T.alloc Wanted.none rfl ?_; intro b9)
            refine T.storeA Wanted.none rfl rfl (by repeat (first | exact trivial | refine And.intro rfl ?_)) (by exact rfl) (by repeat (first | exact Upd.head | apply Upd.tail | apply Upd.app)) (by repeat (first | exact Splice.nil | apply Splice.cons | apply Splice.skip)) ?_
            refine T.opsNil ?_
            refine T.seq ?_
            refine T.region ?_
            refine T.pv (PV.fieldAddr rfl) Wanted.none rfl rfl ?_
            refine T.pv (PV.load1 rfl (by first | exact .fro (by assumption) | exact .own (by repeat (first | exact List.Mem.head _ | apply List.Mem.tail | apply List.mem_append_right))) rfl) Wanted.none rfl rfl ?_
            refine T.pv (PV.move rfl) Wanted.none rfl rfl ?_
            refine T.pv (PV.leq rfl rfl) Wanted.none rfl rfl ?_
            refine T.pv (PV.move rfl) Wanted.none rfl rfl ?_
            refine T.setF (d := 74) rfl (by omega) ?_
            refine T.pass (Unwanted.guard rfl rfl rfl) rfl rfl ?_
            refine T.pass (Unwanted.guard rfl rfl rfl) rfl rfl ?_
            refine T.pass (Unwanted.guard rfl rfl rfl) rfl rfl ?_
            refine T.pass (Unwanted.guard rfl rfl rfl) rfl rfl ?_
            refine T.pv (PV.pickF rfl rfl rfl) Wanted.none rfl rfl ?_
            refine T.opsNil ?_
            refine T.condF rfl rfl ?_
            refine T.skip ?_
            refine T.blkEnd ?_
            refine T.region ?_
            refine T.pv (PV.add rfl rfl (by omega)) Wanted.none rfl rfl ?_
            refine T.pv (PV.move rfl) Wanted.none rfl rfl ?_
            refine T.opsNil ?_
            rw [← hsn]
            exact T.next (k + 1) (by omega) (by omega) (by repeat (first | exact trivial | refine And.intro rfl ?_)) (by repeat (first | exact List.Sublist.slnil | exact List.nil_sublist _ | exact List.Sublist.refl _ | exact List.sublist_append_left _ [] | apply List.Sublist.cons_cons | apply List.Sublist.cons | refine List.Sublist.append_left ?_ _ | refine List.sublist_append_of_sublist_right ?_)) rfl
        · rw [List.take_of_length_le (by omega), show passL l (roundsL l j s.1) = roundsL l (j + 1) s.1 from rfl]
          refine T.seq ?_
          refine T.region ?_
          refine T.pv (PV.lss rfl rfl) Wanted.none rfl rfl ?_
          refine T.opsNil ?_
          refine T.seq ?_
          refine T.condF rfl (decide_eq_false (by omega)) ?_
          refine T.exit rfl ?_
          refine T.blkEnd ?_
          refine T.region ?_
          refine T.pv (PV.add rfl rfl (by omega)) Wanted.none rfl rfl ?_
          refine T.pv (PV.move rfl) Wanted.none rfl rfl ?_
          refine T.opsNil ?_
          exact T.next (j + 1) (by omega) (by omega) (by repeat (first | exact trivial | refine And.intro rfl ?_)) (by repeat (first | exact List.Sublist.slnil | exact List.nil_sublist _ | exact List.Sublist.refl _ | exact List.sublist_append_left _ [] | apply List.Sublist.cons_cons | apply List.Sublist.cons | refine List.Sublist.append_left ?_ _ | refine List.sublist_append_of_sublist_right ?_)) rfl
      · obtain rfl : j = l.length := by omega
        rw [hro]
        refine T.seq ?_
        refine T.region ?_
        refine T.pv (PV.lss rfl rfl) Wanted.none rfl rfl ?_
        refine T.opsNil ?_
        refine T.seq ?_
        refine T.condF rfl (decide_eq_false (by omega)) ?_
        refine T.exit rfl ?_
        refine T.seq ?_
        refine T.region ?_
        refine T.pv (PV.move rfl) Wanted.none rfl rfl ?_
        refine T.pv (PV.fieldAddr rfl) Wanted.none rfl rfl ?_
        refine T.pv (PV.load1 rfl (by first | exact .fro (by assumption) | exact .own (by repeat (first | exact List.Mem.head _ | apply List.Mem.tail | apply List.mem_append_right))) rfl) Wanted.none rfl rfl ?_
        refine T.pv (PV.neq rfl rfl) Wanted.none rfl rfl ?_
        refine T.opsNil ?_
        refine T.condF rfl (decide_eq_false (by omega)) ?_
        refine T.skip ?_
        refine T.blkEnd ?_
        refine T.region ?_
        refine T.pv (PV.add rfl rfl (by omega)) Wanted.none rfl rfl ?_
        refine T.pv (PV.move rfl) Wanted.none rfl rfl ?_
        refine T.opsNil ?_
        exact T.next (i + 1) (by omega) (by omega) (by repeat (first | exact trivial | refine And.intro rfl ?_)) (by repeat (first | exact List.Sublist.slnil | exact List.nil_sublist _ | exact List.Sublist.refl _ | exact List.sublist_append_left _ [] | apply List.Sublist.cons_cons | apply List.Sublist.cons | refine List.Sublist.append_left ?_ _ | refine List.sublist_append_of_sublist_right ?_)) rfl
    · have hchk : chk2 l c = 0 := by unfold chk2; rw [hc, hchc]; rfl
      refine T.seq ?_
      refine T.region ?_
      refine T.pv (PV.lss rfl rfl) Wanted.none rfl rfl ?_
      refine T.opsNil ?_
      refine T.seq ?_
      refine T.condF rfl (decide_eq_false (by omega)) ?_
      refine T.exit rfl ?_
      refine T.seq ?_
      refine T.region ?_
      refine T.pv (PV.move rfl) Wanted.none rfl rfl ?_
      refine T.pv (PV.move rfl) Wanted.none rfl rfl ?_
      refine T.call Wanted.none rfl rfl (within_fn l c _ _ H2 hv2 hr2 hl (by unfold maxLen; omega)) ?_
      rintro _ H3 hle3 ⟨r3, rfl, hr3⟩
      rw [hchk, if_pos rfl, List.filter_eq_self.2 fun s hs => hcin s ((normS_mem l s).1 hs)] at hr3
      rw [hchk]
      have hv3 := SlR.mono hv2 hle3
      refine T.pv (PV.move rfl) Wanted.none rfl rfl ?_
      refine T.pv (PV.extract rfl rfl) Wanted.none rfl rfl ?_
      refine T.pv (PV.extract rfl rfl) Wanted.none rfl rfl ?_
      refine T.pv (PV.assign rfl) Wanted.none rfl rfl ?_
      refine T.pv (PV.assign rfl) Wanted.none rfl rfl ?_
      refine T.opsNil ?_
      refine T.seq ?_
      refine T.region ?_
      refine T.pv (PV.move rfl) Wanted.none rfl rfl ?_
      refine T.call Wanted.none rfl rfl (normalize_fn l _ H3 hv3 hl) ?_
      rintro _ H4 hle4 ⟨r4, rfl, hr4⟩
      rw [hc, if_pos rfl] at hr4
      rw [hc]
      have s1 := same_eq _ _ _ H4 (hr3.mono hle4) hr4 (by unfold maxLen; omega)
      have hw := awake_fn H4
      refine T.pv (PV.move rfl) Wanted.none rfl rfl ?_
      refine T.pv (PV.extract rfl rfl) Wanted.none rfl rfl ?_
      refine T.pv (PV.extract rfl rfl) Wanted.none rfl rfl ?_
      refine T.pv (PV.assign rfl) Wanted.none rfl rfl ?_
      refine T.pv (PV.assign rfl) Wanted.none rfl rfl ?_
      refine T.opsNil ?_
      refine T.seq ?_
      refine T.region ?_
      refine T.pv (PV.move rfl) Wanted.none rfl rfl ?_
      refine T.pv (PV.eql rfl rfl) Wanted.none rfl rfl ?_
      refine T.pv (PV.move rfl) Wanted.none rfl rfl ?_
      refine T.pv (PV.move rfl) (Wanted.guard rfl rfl rfl) rfl rfl ?_
      refine T.pv (PV.eql rfl rfl) (Wanted.guard rfl rfl rfl) rfl rfl ?_
      refine T.pv (PV.pickT rfl rfl rfl) Wanted.none rfl rfl ?_
      refine T.pv (PV.move rfl) Wanted.none rfl rfl ?_
      refine T.pv (PV.move rfl) (Wanted.guard rfl rfl rfl) rfl rfl ?_
      refine T.pv (PV.move rfl) (Wanted.guard rfl rfl rfl) rfl rfl ?_
      refine T.callV (Wanted.guard rfl rfl rfl) rfl rfl (s1) ?_
      refine T.pv (PV.pickT rfl rfl rfl) Wanted.none rfl rfl ?_
      refine T.pv (PV.move rfl) Wanted.none rfl rfl ?_
      refine T.callV (Wanted.guard rfl rfl rfl) rfl rfl (hw) ?_
      refine T.pv (PV.pickT rfl rfl rfl) Wanted.none rfl rfl ?_
      refine T.pv (PV.assign rfl) Wanted.none rfl rfl ?_
      refine T.opsNil ?_
      exact T.retF (Lv.fin (RV.tmp rfl rfl) rfl)
  · refine T.callV Wanted.none rfl rfl (hg) ?_
    refine T.pv (PV.move rfl) Wanted.none rfl rfl ?_
    refine T.pv (PV.move rfl) (Wanted.guard rfl rfl rfl) rfl rfl ?_
    refine T.pv (PV.neq rfl rfl) (Wanted.guard rfl rfl rfl) rfl rfl ?_
    refine T.pv (PV.pickF rfl rfl rfl) Wanted.none rfl rfl ?_
    refine T.opsNil ?_
    refine T.condT rfl (decide_eq_true (by omega)) ?_
    refine T.seq ?_
    refine T.region ?_
    refine T.pv (PV.assign rfl) Wanted.none rfl rfl ?_
    refine T.opsNil ?_
    exact T.retF (Lv.fin (RV.tmp rfl rfl) rfl)
end Go.Proofs.Ytapakgncdmmmaaa
