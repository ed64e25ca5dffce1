/- strategy: the reference's Insert. -/
import Derived.Test.YtceaicameojcaaaS6
namespace Go.Proofs.Ytceaicameojcaaa
open Go.RowKit

theorem SlR.pre {H : Hp} {sz : Nat} {ad : Option Addr} {n cap : Nat} {xs : List Value} (h : SlR H sz (.slice ad n cap) n xs) {hi : Nat} (h2 : hi ≤ n) : SlR H sz (.slice ad hi cap) hi (xs.take (hi * sz)) := by
  have hl : (xs.take (hi * sz)).length = hi * sz := by
    rw [List.length_take, h.1]
    have : hi * sz ≤ n * sz := Nat.mul_le_mul_right _ h2
    omega
  refine ⟨hl, ?_⟩
  rcases h.2 with ⟨_, rfl⟩ | ⟨b, off, cap', cs, t, fz, hv, hb, hx, hcap⟩
  · left
    obtain rfl : hi = 0 := by omega
    exact ⟨⟨_, _, rfl⟩, rfl⟩
  · injection hv with e1 e2 e3
    subst e1 e3
    right
    refine ⟨b, off, cap, cs, t, fz, rfl, hb, ?_, by omega⟩
    rw [← hx, List.take_take]
    congr 1
    exact (Nat.min_eq_left (Nat.mul_le_mul_right _ h2)).symm
theorem takeS (l : List Sp) (k : Nat) (h : k ≤ l.length) : (l.flatMap encS).take (k * 2) = (l.take k).flatMap encS := by
  have : l.flatMap encS = (l.take k).flatMap encS ++ (l.drop k).flatMap encS := by rw [← List.flatMap_append, List.take_append_drop]
  rw [this, List.take_left' (by rw [flatS_len, List.length_take]; congr 1; omega)]
theorem dropS (l : List Sp) (k : Nat) (h : k ≤ l.length) : (l.flatMap encS).drop (k * 2) = (l.drop k).flatMap encS := by
  have : l.flatMap encS = (l.take k).flatMap encS ++ (l.drop k).flatMap encS := by rw [← List.flatMap_append, List.take_append_drop]
  rw [this, List.drop_left' (by rw [flatS_len, List.length_take]; congr 1; omega)]
theorem SpL.pre {H : Hp} {ad : Option Addr} {cap : Nat} {l : List Sp} (h : SlR H 2 (.slice ad l.length cap) l.length (l.flatMap encS)) {k : Nat} (hk : k ≤ l.length) : SlR H 2 (.slice ad ((k : Nat) : Int).toNat cap) k ((l.take k).flatMap encS) := by
  have := h.pre hk
  rw [takeS l k hk] at this
  rw [Int.toNat_natCast]; exact this
theorem SpL.suf {H : Hp} {ad : Option Addr} {cap : Nat} {l : List Sp} (h : SlR H 2 (.slice ad l.length cap) l.length (l.flatMap encS)) {k : Nat} (hk : k ≤ l.length) : SlR H 2 (slV 2 ad ((k : Nat) : Int).toNat l.length cap) (l.length - k) ((l.drop k).flatMap encS) := by
  have := h.slice (lo := k) (hi := l.length) hk (Nat.le_refl _)
  rw [dropS l k hk, List.take_of_length_le (by rw [flatS_len, List.length_drop]; omega)] at this
  rw [Int.toNat_natCast]; exact this
theorem SpL.sufP {H : Hp} {b off : Nat} {cap : Nat} {l : List Sp} (h : SlR H 2 (.slice (some ⟨b, off, none⟩) l.length cap) l.length (l.flatMap encS)) {k : Nat} (hk : k < l.length) : SlR H 2 (.slice (some ⟨b, off + ((k : Nat) : Int).toNat * 2, none⟩) (l.length - ((k : Nat) : Int).toNat) (cap - ((k : Nat) : Int).toNat)) (l.length - k) ((l.drop k).flatMap encS) := by
  have := SpL.suf h (Nat.le_of_lt hk)
  have hc := h.cap
  unfold slV at this
  rw [if_neg (by omega)] at this
  simpa [addr_add] using this
theorem app3 {H : Hp} {v : Value} {l r : List Sp} {k : Nat} {s : Sp} (h : SlR H 2 v (0 + k + 1 + (l.length - k)) ([] ++ (l.take k).flatMap encS ++ encS s ++ (l.drop k).flatMap encS)) (hk : k ≤ l.length) (hr : r = l.take k ++ s :: l.drop k) : SpL H v r := by
  subst hr
  have e1 : (l.take k ++ s :: l.drop k).length = 0 + k + 1 + (l.length - k) := by rw [List.length_append, List.length_cons, List.length_take, List.length_drop]; omega
  have e2 : (l.take k ++ s :: l.drop k).flatMap encS = [] ++ (l.take k).flatMap encS ++ encS s ++ (l.drop k).flatMap encS := by simp
  show SlR H 2 v _ _
  rw [e1, e2]; exact h
theorem T.cut1 {P : Program} {X : Cx} {e : Env} {l : List (Nat × Obj)} {H : Hp} {D : List Deferred} {a : It} {k : List It} (e' : Env) (l' : List (Nat × Obj)) (K : T P X e' l' H D k)
    (h : (∀ e l, Env.Sub e' e → List.Sublist l' l → T P X e l H D k) → T P X e l H D (a :: k)) : T P X e l H D (a :: k) := h fun _ _ he hl => T.weak he hl K
theorem T.cut2 {P : Program} {X : Cx} {e : Env} {l : List (Nat × Obj)} {H : Hp} {D : List Deferred} {a b : It} {k : List It} (e' : Env) (l' : List (Nat × Obj)) (K : T P X e' l' H D k)
    (h : (∀ e l, Env.Sub e' e → List.Sublist l' l → T P X e l H D k) → T P X e l H D (a :: b :: k)) : T P X e l H D (a :: b :: k) := h fun _ _ he hl => T.weak he hl K
set_option maxHeartbeats 2000000 in
theorem insert_fn (l : List Sp) (s : Sp) (v : Value) (H : Hp) (hv : SpL H v l) (hl : l.length ≤ 1000000) (hs : l.Pairwise ltC) : Fn Try.prog 35 #[v, spV s] H (fun u H' => SpL H' u (insC l s)) := by
  obtain ⟨ad, cap, rfl⟩ := hv.len
  have hcap := hv.cap
  refine Fn.of_T (vs := [.slice ad l.length cap, spV s]) Try.func35 rfl rfl fun w => ?_
  unfold spV
  refine T.seq ?_
  refine T.region ?_
  (refine T.box Wanted.none rfl rfl (by first | exact CellsR.one rfl | exact CellsR.agg) ?_; intro b3)
  refine T.pv (PV.assign rfl) Wanted.none rfl rfl ?_
  refine T.opsNil ?_
  refine T.seq ?_
  refine T.region ?_
  refine T.pv (PV.move rfl) Wanted.none rfl rfl ?_
  refine T.pv (PV.lenSl rfl) Wanted.none rfl rfl ?_
  refine T.pv (PV.assign rfl) Wanted.none rfl rfl ?_
  refine T.opsNil ?_
  refine T.seq ?_
  refine T.block ?_
  refine T.loop (γ := Nat) (fun k => k ≤ l.length ∧ ∀ x ∈ l.drop k, ltC s x)
    (fun k => [(0, .slice ad l.length cap), (3, .pointer (some ⟨b3, 0, none⟩)), (5, .int .i64 (k : Int))])
    (fun _ => [(b3, .cells #[.int .i64 s.1, .int .i64 s.2] 40 (0, 0))]) (fun _ => H) (fun k => k) l.length ⟨by simp, by simp⟩ (by repeat (first | exact trivial | refine And.intro rfl ?_)) (by repeat (first | exact List.Sublist.slnil | exact List.nil_sublist _ | exact List.Sublist.refl _ | exact List.sublist_append_left _ [] | apply List.Sublist.cons_cons | apply List.Sublist.cons | refine List.Sublist.append_left ?_ _ | refine List.sublist_append_of_sublist_right ?_)) rfl ?_
  rintro k ⟨k1, k2⟩
  have hread : ∀ (i : Nat) (x : Sp), k = i + 1 → l[i]? = some x → ∃ b off, ad = some ⟨b, off, none⟩ ∧ SubC H b (off + ((k : Int) - 1).toNat * 2) [.int .i64 x.1, .int .i64 x.2] := by
    intro i x hk hx
    obtain ⟨b, off, e, hsub0⟩ := hv.span hx
    refine ⟨b, off, e, ?_⟩
    rwa [show ((k : Int) - 1).toNat = i by omega]
  obtain ⟨q, hq⟩ : ∃ q : Bool, q = decide (∃ x, l[k - 1]? = some x ∧ 0 < k ∧ ltC s x) := ⟨_, rfl⟩
  refine T.seq ?_
  refine T.seq ?_
  refine T.cut1 [(42, .bool q), (0, .slice ad l.length cap), (3, .pointer (some ⟨b3, 0, none⟩)), (5, .int .i64 (k : Int))] [(b3, .cells #[.int .i64 s.1, .int .i64 s.2] 40 (0, 0))] ?_ fun K => ?_
  rotate_left
  · cases k with
    | zero =>
      have hqf : q = false := by rw [hq]; exact decide_eq_false (by rintro ⟨x, _, h, _⟩; omega)
      subst hqf
      refine T.regionQ (by kernel_rfl) ?_
      refine TQ.pv (PV.move rfl) Wanted.none rfl rfl ?_
      refine TQ.pv (PV.gtr rfl rfl) Wanted.none rfl rfl ?_
      refine TQ.pv (PV.move rfl) Wanted.none rfl rfl ?_
      refine TQ.pass (Unwanted.guard rfl rfl rfl) rfl rfl ?_
      refine TQ.pass (Unwanted.guard rfl rfl rfl) rfl rfl ?_
      refine TQ.pass (Unwanted.guard rfl rfl rfl) rfl rfl ?_
      refine TQ.pass (Unwanted.guard rfl rfl rfl) rfl rfl ?_
      refine TQ.pass (Unwanted.guard rfl rfl rfl) rfl rfl ?_
      refine TQ.pass (Unwanted.guard rfl rfl rfl) rfl rfl ?_
      refine TQ.pass (Unwanted.guard rfl rfl rfl) rfl rfl ?_
      refine TQ.pass (Unwanted.guard rfl rfl rfl) rfl rfl ?_
      refine TQ.pass (Unwanted.guard rfl rfl rfl) rfl rfl ?_
      refine TQ.pass (Unwanted.guard rfl rfl rfl) rfl rfl ?_
      refine TQ.pass (Unwanted.undef rfl rfl) rfl rfl ?_
      refine TQ.pass (Unwanted.undef rfl rfl) rfl rfl ?_
      refine TQ.pass (Unwanted.undef rfl rfl) rfl rfl ?_
      refine TQ.pass (Unwanted.undef rfl rfl) rfl rfl ?_
      refine TQ.pass (Unwanted.undef rfl rfl) rfl rfl ?_
      refine TQ.pass (Unwanted.undef rfl rfl) rfl rfl ?_
      refine TQ.pass (Unwanted.undef rfl rfl) rfl rfl ?_
      refine TQ.pass (Unwanted.undef rfl rfl) rfl rfl ?_
      refine TQ.pass (Unwanted.undef rfl rfl) rfl rfl ?_
      refine TQ.pass (Unwanted.undef rfl rfl) rfl rfl ?_
      refine TQ.pass (Unwanted.undef rfl rfl) rfl rfl ?_
      refine TQ.pass (Unwanted.undef rfl rfl) rfl rfl ?_
      refine TQ.pass (Unwanted.undef rfl rfl) rfl rfl ?_
      refine TQ.pass (Unwanted.undef rfl rfl) rfl rfl ?_
      refine TQ.pass (Unwanted.undef rfl rfl) rfl rfl ?_
      refine TQ.pass (Unwanted.undef rfl rfl) rfl rfl ?_
      refine TQ.pass (Unwanted.undef rfl rfl) rfl rfl ?_
      refine TQ.pass (Unwanted.undef rfl rfl) rfl rfl ?_
      refine TQ.pass (Unwanted.undef rfl rfl) rfl rfl ?_
      refine TQ.pass (Unwanted.undef rfl rfl) rfl rfl ?_
      refine TQ.pass (Unwanted.guard rfl rfl rfl) rfl rfl ?_
      refine TQ.pv (PV.pickF rfl rfl rfl) Wanted.none rfl rfl ?_
      refine TQ.nil ?_
      exact K _ _ (by repeat (first | exact trivial | refine And.intro rfl ?_)) (by repeat (first | exact List.Sublist.slnil | exact List.nil_sublist _ | exact List.Sublist.refl _ | exact List.sublist_append_left _ [] | apply List.Sublist.cons_cons | apply List.Sublist.cons | refine List.Sublist.append_left ?_ _ | refine List.sublist_append_of_sublist_right ?_))
    | succ i =>
      obtain ⟨x, hx⟩ : ∃ x, l[i]? = some x := ⟨_, List.getElem?_eq_getElem (by omega)⟩
      obtain ⟨b, off, rfl, hsub⟩ := hread i x rfl hx
      have hqx : q = decide (ltC s x) := by
        rw [hq, decide_eq_decide]
        constructor
        · rintro ⟨y, hy, _, h⟩
          rw [Nat.add_sub_cancel, hx] at hy; injection hy with hy; subst hy; exact h
        · intro h; exact ⟨x, hx, by omega, h⟩
      by_cases h1 : s.1 < x.1
      · rw [decide_eq_true (show ltC s x from .inl h1)] at hqx
        subst hqx
        refine T.regionQ (by kernel_rfl) ?_
        refine TQ.pv (PV.move rfl) Wanted.none rfl rfl ?_
        refine TQ.pv (PV.gtr rfl rfl) Wanted.none rfl rfl ?_
        refine TQ.pv (PV.move rfl) Wanted.none rfl rfl ?_
        refine TQ.setT (d := 10) rfl (by omega) ?_
        refine TQ.pv (PV.fieldAddr rfl) (Wanted.guard rfl rfl rfl) rfl rfl ?_
        refine TQ.pv (PV.load1 rfl (by first | exact .fro (by assumption) | exact .own (by repeat (first | exact List.Mem.head _ | apply List.Mem.tail | apply List.mem_append_right))) rfl) (Wanted.guard rfl rfl rfl) rfl rfl ?_
        refine TQ.pv (PV.move rfl) (Wanted.guard rfl rfl rfl) rfl rfl ?_
        refine TQ.pv (PV.move rfl) (Wanted.guard rfl rfl rfl) rfl rfl ?_
        refine TQ.pv (PV.sub rfl rfl (by omega)) (Wanted.guard rfl rfl rfl) rfl rfl ?_
        refine TQ.pv (PV.indexAddr rfl rfl (by omega)) (Wanted.guard rfl rfl rfl) rfl rfl ?_
        refine TQ.pv (PV.fieldAddr rfl) (Wanted.guard rfl rfl rfl) rfl rfl ?_
        refine TQ.pv (PV.loadSub rfl (by assumption) rfl) (Wanted.guard rfl rfl rfl) rfl rfl ?_
        refine TQ.pv (PV.lss rfl rfl) (Wanted.guard rfl rfl rfl) rfl rfl ?_
        refine TQ.pv (PV.move rfl) (Wanted.guard rfl rfl rfl) rfl rfl ?_
        refine TQ.setT (d := 20) rfl (by omega) ?_
        refine TQ.pass (Unwanted.guard rfl rfl rfl) rfl rfl ?_
        refine TQ.pass (Unwanted.guard rfl rfl rfl) rfl rfl ?_
        refine TQ.pass (Unwanted.guard rfl rfl rfl) rfl rfl ?_
        refine TQ.pass (Unwanted.guard rfl rfl rfl) rfl rfl ?_
        refine TQ.pass (Unwanted.guard rfl rfl rfl) rfl rfl ?_
        refine TQ.pass (Unwanted.guard rfl rfl rfl) rfl rfl ?_
        refine TQ.pass (Unwanted.guard rfl rfl rfl) rfl rfl ?_
        refine TQ.pass (Unwanted.guard rfl rfl rfl) rfl rfl ?_
        refine TQ.pass (Unwanted.guard rfl rfl rfl) rfl rfl ?_
        refine TQ.pass (Unwanted.guard rfl rfl rfl) rfl rfl ?_
        refine TQ.pass (Unwanted.undef rfl rfl) rfl rfl ?_
        refine TQ.pass (Unwanted.undef rfl rfl) rfl rfl ?_
        refine TQ.pass (Unwanted.undef rfl rfl) rfl rfl ?_
        refine TQ.pass (Unwanted.undef rfl rfl) rfl rfl ?_
        refine TQ.pass (Unwanted.undef rfl rfl) rfl rfl ?_
        refine TQ.pass (Unwanted.undef rfl rfl) rfl rfl ?_
        refine TQ.pass (Unwanted.undef rfl rfl) rfl rfl ?_
        refine TQ.pass (Unwanted.undef rfl rfl) rfl rfl ?_
        refine TQ.pass (Unwanted.undef rfl rfl) rfl rfl ?_
        refine TQ.pass (Unwanted.guard rfl rfl rfl) rfl rfl ?_
        refine TQ.pv (PV.pickT rfl rfl rfl) (Wanted.guard rfl rfl rfl) rfl rfl ?_
        refine TQ.pv (PV.pickT rfl rfl rfl) Wanted.none rfl rfl ?_
        refine TQ.nil ?_
        exact K _ _ (by repeat (first | exact trivial | refine And.intro rfl ?_)) (by repeat (first | exact List.Sublist.slnil | exact List.nil_sublist _ | exact List.Sublist.refl _ | exact List.sublist_append_left _ [] | apply List.Sublist.cons_cons | apply List.Sublist.cons | refine List.Sublist.append_left ?_ _ | refine List.sublist_append_of_sublist_right ?_))
      · by_cases h3 : s.1 = x.1
        · have hqe : q = decide (s.2 < x.2) := by rw [hqx, decide_eq_decide]; unfold ltC; omega
          subst hqe
          refine T.regionQ (by kernel_rfl) ?_
          refine TQ.pv (PV.move rfl) Wanted.none rfl rfl ?_
          refine TQ.pv (PV.gtr rfl rfl) Wanted.none rfl rfl ?_
          refine TQ.pv (PV.move rfl) Wanted.none rfl rfl ?_
          refine TQ.setT (d := 10) rfl (by omega) ?_
          refine TQ.pv (PV.fieldAddr rfl) (Wanted.guard rfl rfl rfl) rfl rfl ?_
          refine TQ.pv (PV.load1 rfl (by first | exact .fro (by assumption) | exact .own (by repeat (first | exact List.Mem.head _ | apply List.Mem.tail | apply List.mem_append_right))) rfl) (Wanted.guard rfl rfl rfl) rfl rfl ?_
          refine TQ.pv (PV.move rfl) (Wanted.guard rfl rfl rfl) rfl rfl ?_
          refine TQ.pv (PV.move rfl) (Wanted.guard rfl rfl rfl) rfl rfl ?_
          refine TQ.pv (PV.sub rfl rfl (by omega)) (Wanted.guard rfl rfl rfl) rfl rfl ?_
          refine TQ.pv (PV.indexAddr rfl rfl (by omega)) (Wanted.guard rfl rfl rfl) rfl rfl ?_
          refine TQ.pv (PV.fieldAddr rfl) (Wanted.guard rfl rfl rfl) rfl rfl ?_
          refine TQ.pv (PV.loadSub rfl (by assumption) rfl) (Wanted.guard rfl rfl rfl) rfl rfl ?_
          refine TQ.pv (PV.lss rfl rfl) (Wanted.guard rfl rfl rfl) rfl rfl ?_
          refine TQ.pv (PV.move rfl) (Wanted.guard rfl rfl rfl) rfl rfl ?_
          refine TQ.setF (d := 20) rfl (by omega) ?_
          refine TQ.pv (PV.fieldAddr rfl) (Wanted.guard rfl rfl rfl) rfl rfl ?_
          refine TQ.pv (PV.load1 rfl (by first | exact .fro (by assumption) | exact .own (by repeat (first | exact List.Mem.head _ | apply List.Mem.tail | apply List.mem_append_right))) rfl) (Wanted.guard rfl rfl rfl) rfl rfl ?_
          refine TQ.pv (PV.move rfl) (Wanted.guard rfl rfl rfl) rfl rfl ?_
          refine TQ.pv (PV.move rfl) (Wanted.guard rfl rfl rfl) rfl rfl ?_
          refine TQ.pv (PV.sub rfl rfl (by omega)) (Wanted.guard rfl rfl rfl) rfl rfl ?_
          refine TQ.pv (PV.indexAddr rfl rfl (by omega)) (Wanted.guard rfl rfl rfl) rfl rfl ?_
          refine TQ.pv (PV.fieldAddr rfl) (Wanted.guard rfl rfl rfl) rfl rfl ?_
          refine TQ.pv (PV.loadSub rfl (by assumption) rfl) (Wanted.guard rfl rfl rfl) rfl rfl ?_
          refine TQ.pv (PV.eql rfl rfl) (Wanted.guard rfl rfl rfl) rfl rfl ?_
          refine TQ.pv (PV.move rfl) (Wanted.guard rfl rfl rfl) rfl rfl ?_
          refine TQ.setT (d := 30) rfl (by omega) ?_
          refine TQ.pv (PV.fieldAddr rfl) (Wanted.guard rfl rfl rfl) rfl rfl ?_
          refine TQ.pv (PV.load1 rfl (by first | exact .fro (by assumption) | exact .own (by repeat (first | exact List.Mem.head _ | apply List.Mem.tail | apply List.mem_append_right))) rfl) (Wanted.guard rfl rfl rfl) rfl rfl ?_
          refine TQ.pv (PV.move rfl) (Wanted.guard rfl rfl rfl) rfl rfl ?_
          refine TQ.pv (PV.move rfl) (Wanted.guard rfl rfl rfl) rfl rfl ?_
          refine TQ.pv (PV.sub rfl rfl (by omega)) (Wanted.guard rfl rfl rfl) rfl rfl ?_
          refine TQ.pv (PV.indexAddr rfl rfl (by omega)) (Wanted.guard rfl rfl rfl) rfl rfl ?_
          refine TQ.pv (PV.fieldAddr rfl) (Wanted.guard rfl rfl rfl) rfl rfl ?_
          refine TQ.pv (PV.loadSub rfl (by assumption) rfl) (Wanted.guard rfl rfl rfl) rfl rfl ?_
          refine TQ.pv (PV.lss rfl rfl) (Wanted.guard rfl rfl rfl) rfl rfl ?_
          refine TQ.pv (PV.pickT rfl rfl rfl) (Wanted.guard rfl rfl rfl) rfl rfl ?_
          refine TQ.pv (PV.pickF rfl rfl rfl) (Wanted.guard rfl rfl rfl) rfl rfl ?_
          refine TQ.pv (PV.pickT rfl rfl rfl) Wanted.none rfl rfl ?_
          refine TQ.nil ?_
          exact K _ _ (by repeat (first | exact trivial | refine And.intro rfl ?_)) (by repeat (first | exact List.Sublist.slnil | exact List.nil_sublist _ | exact List.Sublist.refl _ | exact List.sublist_append_left _ [] | apply List.Sublist.cons_cons | apply List.Sublist.cons | refine List.Sublist.append_left ?_ _ | refine List.sublist_append_of_sublist_right ?_))
        · rw [decide_eq_false (show ¬ ltC s x by unfold ltC; omega)] at hqx
          subst hqx
          refine T.regionQ (by kernel_rfl) ?_
          refine TQ.pv (PV.move rfl) Wanted.none rfl rfl ?_
          refine TQ.pv (PV.gtr rfl rfl) Wanted.none rfl rfl ?_
          refine TQ.pv (PV.move rfl) Wanted.none rfl rfl ?_
          refine TQ.setT (d := 10) rfl (by omega) ?_
          refine TQ.pv (PV.fieldAddr rfl) (Wanted.guard rfl rfl rfl) rfl rfl ?_
          refine TQ.pv (PV.load1 rfl (by first | exact .fro (by assumption) | exact .own (by repeat (first | exact List.Mem.head _ | apply List.Mem.tail | apply List.mem_append_right))) rfl) (Wanted.guard rfl rfl rfl) rfl rfl ?_
          refine TQ.pv (PV.move rfl) (Wanted.guard rfl rfl rfl) rfl rfl ?_
          refine TQ.pv (PV.move rfl) (Wanted.guard rfl rfl rfl) rfl rfl ?_
          refine TQ.pv (PV.sub rfl rfl (by omega)) (Wanted.guard rfl rfl rfl) rfl rfl ?_
          refine TQ.pv (PV.indexAddr rfl rfl (by omega)) (Wanted.guard rfl rfl rfl) rfl rfl ?_
          refine TQ.pv (PV.fieldAddr rfl) (Wanted.guard rfl rfl rfl) rfl rfl ?_
          refine TQ.pv (PV.loadSub rfl (by assumption) rfl) (Wanted.guard rfl rfl rfl) rfl rfl ?_
          refine TQ.pv (PV.lss rfl rfl) (Wanted.guard rfl rfl rfl) rfl rfl ?_
          refine TQ.pv (PV.move rfl) (Wanted.guard rfl rfl rfl) rfl rfl ?_
          refine TQ.setF (d := 20) rfl (by omega) ?_
          refine TQ.pv (PV.fieldAddr rfl) (Wanted.guard rfl rfl rfl) rfl rfl ?_
          refine TQ.pv (PV.load1 rfl (by first | exact .fro (by assumption) | exact .own (by repeat (first | exact List.Mem.head _ | apply List.Mem.tail | apply List.mem_append_right))) rfl) (Wanted.guard rfl rfl rfl) rfl rfl ?_
          refine TQ.pv (PV.move rfl) (Wanted.guard rfl rfl rfl) rfl rfl ?_
          refine TQ.pv (PV.move rfl) (Wanted.guard rfl rfl rfl) rfl rfl ?_
          refine TQ.pv (PV.sub rfl rfl (by omega)) (Wanted.guard rfl rfl rfl) rfl rfl ?_
          refine TQ.pv (PV.indexAddr rfl rfl (by omega)) (Wanted.guard rfl rfl rfl) rfl rfl ?_
          refine TQ.pv (PV.fieldAddr rfl) (Wanted.guard rfl rfl rfl) rfl rfl ?_
          refine TQ.pv (PV.loadSub rfl (by assumption) rfl) (Wanted.guard rfl rfl rfl) rfl rfl ?_
          refine TQ.pv (PV.eql rfl rfl) (Wanted.guard rfl rfl rfl) rfl rfl ?_
          refine TQ.pv (PV.move rfl) (Wanted.guard rfl rfl rfl) rfl rfl ?_
          refine TQ.setF (d := 30) rfl (by omega) ?_
          refine TQ.pass (Unwanted.guard rfl rfl rfl) rfl rfl ?_
          refine TQ.pass (Unwanted.guard rfl rfl rfl) rfl rfl ?_
          refine TQ.pass (Unwanted.guard rfl rfl rfl) rfl rfl ?_
          refine TQ.pass (Unwanted.guard rfl rfl rfl) rfl rfl ?_
          refine TQ.pass (Unwanted.guard rfl rfl rfl) rfl rfl ?_
          refine TQ.pass (Unwanted.guard rfl rfl rfl) rfl rfl ?_
          refine TQ.pass (Unwanted.guard rfl rfl rfl) rfl rfl ?_
          refine TQ.pass (Unwanted.guard rfl rfl rfl) rfl rfl ?_
          refine TQ.pass (Unwanted.guard rfl rfl rfl) rfl rfl ?_
          refine TQ.pv (PV.pickF rfl rfl rfl) (Wanted.guard rfl rfl rfl) rfl rfl ?_
          refine TQ.pv (PV.pickF rfl rfl rfl) (Wanted.guard rfl rfl rfl) rfl rfl ?_
          refine TQ.pv (PV.pickT rfl rfl rfl) Wanted.none rfl rfl ?_
          refine TQ.nil ?_
          exact K _ _ (by repeat (first | exact trivial | refine And.intro rfl ?_)) (by repeat (first | exact List.Sublist.slnil | exact List.nil_sublist _ | exact List.Sublist.refl _ | exact List.sublist_append_left _ [] | apply List.Sublist.cons_cons | apply List.Sublist.cons | refine List.Sublist.append_left ?_ _ | refine List.sublist_append_of_sublist_right ?_))
  refine T.cond rfl (fun hc => ?_) (fun hc => ?_)
  · rw [hq, decide_eq_true_eq] at hc
    obtain ⟨x, hx, hk0, hlt⟩ := hc
    have hdr : l.drop (k - 1) = x :: l.drop k := by
      have := List.getElem?_eq_some_iff.1 hx
      rw [List.drop_eq_getElem_cons this.1, this.2, show k - 1 + 1 = k by omega]
    refine T.skip ?_
    refine T.block ?_
    refine T.region ?_
    refine T.pv (PV.move rfl) Wanted.none rfl rfl ?_
    refine T.pv (PV.sub rfl rfl (by omega)) Wanted.none rfl rfl ?_
    refine T.pv (PV.assign rfl) Wanted.none rfl rfl ?_
    refine T.opsNil ?_
    refine T.blkEnd ?_
    rw [show (k : Int) - 1 = ((k - 1 : Nat) : Int) by omega]
    refine T.next (k - 1) ⟨by omega, fun y hy => ?_⟩ (by omega) (by repeat (first | exact trivial | refine And.intro rfl ?_)) (by repeat (first | exact List.Sublist.slnil | exact List.nil_sublist _ | exact List.Sublist.refl _ | exact List.sublist_append_left _ [] | apply List.Sublist.cons_cons | apply List.Sublist.cons | refine List.Sublist.append_left ?_ _ | refine List.sublist_append_of_sublist_right ?_)) rfl
    rw [hdr] at hy
    rcases List.mem_cons.1 hy with h | h
    · subst h; exact hlt
    · exact k2 y h
  · rw [hq, decide_eq_false_iff_not] at hc
    refine T.exit rfl ?_
    obtain ⟨r, hr⟩ : ∃ r : Bool, r = decide (0 < k ∧ l[k - 1]? = some s) := ⟨_, rfl⟩
    refine T.seq ?_
    refine T.seq ?_
    refine T.cut1 [(55, .bool r), (0, .slice ad l.length cap), (3, .pointer (some ⟨b3, 0, none⟩)), (5, .int .i64 (k : Int))] [(b3, .cells #[.int .i64 s.1, .int .i64 s.2] 40 (0, 0))] ?_ fun K => ?_
    rotate_left
    · cases k with
      | zero =>
        have hrf : r = false := by rw [hr]; exact decide_eq_false (by omega)
        subst hrf
        refine T.regionQ (by kernel_rfl) ?_
        refine TQ.pv (PV.move rfl) Wanted.none rfl rfl ?_
        refine TQ.pv (PV.gtr rfl rfl) Wanted.none rfl rfl ?_
        refine TQ.pv (PV.move rfl) Wanted.none rfl rfl ?_
        refine TQ.pass (Unwanted.guard rfl rfl rfl) rfl rfl ?_
        refine TQ.pass (Unwanted.guard rfl rfl rfl) rfl rfl ?_
        refine TQ.pass (Unwanted.guard rfl rfl rfl) rfl rfl ?_
        refine TQ.pass (Unwanted.guard rfl rfl rfl) rfl rfl ?_
        refine TQ.pass (Unwanted.guard rfl rfl rfl) rfl rfl ?_
        refine TQ.pass (Unwanted.guard rfl rfl rfl) rfl rfl ?_
        refine TQ.pass (Unwanted.guard rfl rfl rfl) rfl rfl ?_
        refine TQ.pv (PV.pickF rfl rfl rfl) Wanted.none rfl rfl ?_
        refine TQ.nil ?_
        exact K _ _ (by repeat (first | exact trivial | refine And.intro rfl ?_)) (by repeat (first | exact List.Sublist.slnil | exact List.nil_sublist _ | exact List.Sublist.refl _ | exact List.sublist_append_left _ [] | apply List.Sublist.cons_cons | apply List.Sublist.cons | refine List.Sublist.append_left ?_ _ | refine List.sublist_append_of_sublist_right ?_))
      | succ i =>
        obtain ⟨x, hx⟩ : ∃ x, l[i]? = some x := ⟨_, List.getElem?_eq_getElem (by omega)⟩
        obtain ⟨b, off, rfl, hsub⟩ := hread i x rfl hx
        have hrx : r = decide (x = s) := by
          rw [hr, decide_eq_decide, Nat.add_sub_cancel, hx]
          exact ⟨fun h => Option.some.inj h.2, fun h => ⟨by omega, by rw [h]⟩⟩
        have hqq := eqS_eq x s
        rw [← hrx] at hqq
        refine T.regionQ (by kernel_rfl) ?_
        refine TQ.pv (PV.move rfl) Wanted.none rfl rfl ?_
        refine TQ.pv (PV.gtr rfl rfl) Wanted.none rfl rfl ?_
        refine TQ.pv (PV.move rfl) Wanted.none rfl rfl ?_
        refine TQ.setT (d := 47) rfl (by omega) ?_
        refine TQ.pv (PV.move rfl) (Wanted.guard rfl rfl rfl) rfl rfl ?_
        refine TQ.pv (PV.move rfl) (Wanted.guard rfl rfl rfl) rfl rfl ?_
        refine TQ.pv (PV.sub rfl rfl (by omega)) (Wanted.guard rfl rfl rfl) rfl rfl ?_
        refine TQ.pv (PV.indexAddr rfl rfl (by omega)) (Wanted.guard rfl rfl rfl) rfl rfl ?_
        refine TQ.pv (PV.loadSubAll rfl (by assumption) (by exact rfl)) (Wanted.guard rfl rfl rfl) rfl rfl ?_
        refine TQ.pv (PV.loadAll rfl (by first | exact .fro (by assumption) | exact .own (by repeat (first | exact List.Mem.head _ | apply List.Mem.tail | apply List.mem_append_right))) (by exact rfl)) (Wanted.guard rfl rfl rfl) rfl rfl ?_
        refine TQ.pv (PV.aeql rfl rfl rfl rfl) (Wanted.guard rfl rfl rfl) rfl rfl ?_
        refine TQ.pv (PV.pickT rfl rfl rfl) Wanted.none rfl rfl ?_
        refine TQ.nil ?_
        rw [hqq]
        exact K _ _ (by repeat (first | exact trivial | refine And.intro rfl ?_)) (by repeat (first | exact List.Sublist.slnil | exact List.nil_sublist _ | exact List.Sublist.refl _ | exact List.sublist_append_left _ [] | apply List.Sublist.cons_cons | apply List.Sublist.cons | refine List.Sublist.append_left ?_ _ | refine List.sublist_append_of_sublist_right ?_))
    refine T.cond rfl (fun hc2 => ?_) (fun hc2 => ?_)
    · rw [hr, decide_eq_true_eq] at hc2
      have hres : insC l s = l := insB_old _ _ ltC_sto hs (List.mem_of_getElem? hc2.2) rfl
      rw [hres]
      refine T.seq ?_
      refine T.region ?_
      refine T.pv (PV.move rfl) Wanted.none rfl rfl ?_
      refine T.pv (PV.assign rfl) Wanted.none rfl rfl ?_
      refine T.opsNil ?_
      exact T.retF (Lv.fin (RV.tmp rfl rfl) hv)
    · rw [hr, decide_eq_false_iff_not] at hc2
      have hres : insC l s = l.take k ++ s :: l.drop k := insB_new _ _ ltC_sto k1 hs k2 (by
        rcases Nat.eq_zero_or_pos k with h0 | h0
        · exact .inl h0
        · refine .inr fun y hy => ?_
          rcases ltC_sto.tri y s with h | h | h
          · exact h
          · subst h; exact absurd ⟨h0, hy⟩ hc2
          · exact absurd ⟨y, hy, h0, h⟩ hc)
      refine T.skip ?_
      refine T.seq ?_
      refine T.regionOl (by kernel_rfl) ?_
      refine TO.take 1 rfl (by kernel_rfl) (by kernel_rfl) (by kernel_rfl) (PV.move rfl) Wanted.none rfl rfl ?_
      refine TO.take 2 rfl (by kernel_rfl) (by kernel_rfl) (by kernel_rfl) (PV.move rfl) Wanted.none rfl rfl ?_
      refine TO.take 3 rfl (by kernel_rfl) (by kernel_rfl) (by kernel_rfl) (PV.sliceH rfl rfl (by omega)) Wanted.none rfl rfl ?_
      refine TO.take 5 rfl (by kernel_rfl) (by kernel_rfl) (by kernel_rfl) (PV.loadAll rfl (by first | exact .fro (by assumption) | exact .own (by repeat (first | exact List.Mem.head _ | apply List.Mem.tail | apply List.mem_append_right))) (by exact rfl)) Wanted.none rfl rfl ?_
      refine TO.take 8 rfl (by kernel_rfl) (by kernel_rfl) (by kernel_rfl) (PV.move rfl) Wanted.none rfl rfl ?_
      refine TO.take 9 rfl (by kernel_rfl) (by kernel_rfl) (by kernel_rfl) (PV.move rfl) Wanted.none rfl rfl ?_
      refine TO.take 10 rfl (by kernel_rfl) (by kernel_rfl) (by kernel_rfl) (PV.sliceL rfl rfl (by omega)) Wanted.none rfl rfl ?_
      refine TO.both 0 6 rfl rfl (by kernel_rfl) (by repeat (first | exact List.Sublist.slnil | exact List.nil_sublist _ | exact List.Sublist.refl _ | exact List.sublist_append_left _ [] | apply List.Sublist.cons_cons | apply List.Sublist.cons | refine List.Sublist.append_left ?_ _ | refine List.sublist_append_of_sublist_right ?_)) (Hp.le.refl _) ?_ ?_
      · (refine T.buildSlice Wanted.none rfl rfl (by repeat (first | exact FillAll.nil | (apply FillAll.cons; (first | exact CellsR.one rfl | exact CellsR.agg); exact rfl))) (by exact rfl) (by exact rfl) ?_; intro b57)
        refine T.opsNil ?_
        refine TO.back ?_
        refine TO.both 4 6 rfl rfl (by kernel_rfl) (by repeat (first | exact List.Sublist.slnil | exact List.nil_sublist _ | exact List.Sublist.refl _ | exact List.sublist_append_left _ [] | apply List.Sublist.cons_cons | apply List.Sublist.cons | refine List.Sublist.append_left ?_ _ | refine List.sublist_append_of_sublist_right ?_)) (Hp.le.refl _) ?_ ?_
        · skip
          refine T.append [] (lv := []) (bl := [_, _]) Wanted.none rfl rfl rfl (Vec.empty 40 2 _) (SpL.pre hv k1).src (one_flatS _) (by omega) ?_
          intro v1 lv1 hv1 _
          refine T.opsNil ?_
          refine TO.back ?_
          refine TO.step 6 rfl (by kernel_rfl) (by repeat (first | exact List.Sublist.slnil | exact List.nil_sublist _ | exact List.Sublist.refl _ | exact List.sublist_append_left _ [] | apply List.Sublist.cons_cons | apply List.Sublist.cons | refine List.Sublist.append_left ?_ _ | refine List.sublist_append_of_sublist_right ?_)) (by first | exact Hp.le.refl _ | assumption | exact Hp.le.trans (by assumption) (by assumption)) ?_
          (refine T.buildSlice Wanted.none rfl rfl (by repeat (first | exact FillAll.nil | (apply FillAll.cons; (first | exact CellsR.one rfl | exact CellsR.agg); exact rfl))) (by exact rfl) (by exact rfl) ?_; intro b63)
          refine T.opsNil ?_
          refine TO.back ?_
          refine TO.step 7 rfl (by kernel_rfl) (by repeat (first | exact List.Sublist.slnil | exact List.nil_sublist _ | exact List.Sublist.refl _ | exact List.sublist_append_left _ [] | apply List.Sublist.cons_cons | apply List.Sublist.cons | refine List.Sublist.append_left ?_ _ | refine List.sublist_append_of_sublist_right ?_)) (by first | exact Hp.le.refl _ | assumption | exact Hp.le.trans (by assumption) (by assumption)) ?_
          refine T.append [_] (lv := lv1) (bl := [_, _]) Wanted.none rfl rfl rfl hv1 (Src.cells (m := 1) (ys := encS s) (.own (by repeat (first | exact List.Mem.head _ | apply List.Mem.tail | apply List.mem_append_right))) rfl rfl) (one_encS s) (by omega) ?_
          intro v2 lv2 hv2 _
          refine T.opsNil ?_
          refine TO.back ?_
          refine TO.step 11 rfl (by kernel_rfl) (by repeat (first | exact List.Sublist.slnil | exact List.nil_sublist _ | exact List.Sublist.refl _ | exact List.sublist_append_left _ [] | apply List.Sublist.cons_cons | apply List.Sublist.cons | refine List.Sublist.append_left ?_ _ | refine List.sublist_append_of_sublist_right ?_)) (by first | exact Hp.le.refl _ | assumption | exact Hp.le.trans (by assumption) (by assumption)) ?_
          refine T.append [_] (lv := lv2) (bl := [_, _]) Wanted.none rfl rfl rfl hv2 (SpL.suf hv k1).src (one_flatS _) (by omega) ?_
          intro v3 lv3 hv3 _
          refine T.opsNil ?_
          refine TO.back ?_
          refine TO.take 12 rfl (by kernel_rfl) (by kernel_rfl) (by kernel_rfl) (PV.assign rfl) Wanted.none rfl rfl ?_
          refine TO.done (by kernel_rfl) (by repeat (first | exact List.Sublist.slnil | exact List.nil_sublist _ | exact List.Sublist.refl _ | exact List.sublist_append_left _ [] | apply List.Sublist.cons_cons | apply List.Sublist.cons | refine List.Sublist.append_left ?_ _ | refine List.sublist_append_of_sublist_right ?_)) (by first | exact Hp.le.refl _ | assumption | exact Hp.le.trans (by assumption) (by assumption)) ?_
          refine T.retF (Vec.freezeLv (l' := []) hv3 (by rw [List.append_nil]; exact (.cons _ (List.sublist_append_left lv3 _))) fun H' _ hsl => Lv.fin (RV.tmp rfl rfl) ?_)
          exact app3 hsl k1 hres
        · (refine T.buildSlice Wanted.none rfl rfl (by repeat (first | exact FillAll.nil | (apply FillAll.cons; (first | exact CellsR.one rfl | exact CellsR.agg); exact rfl))) (by exact rfl) (by exact rfl) ?_; intro b63)
          refine T.opsNil ?_
          refine TO.back ?_
          refine TO.step 4 rfl (by kernel_rfl) (by repeat (first | exact List.Sublist.slnil | exact List.nil_sublist _ | exact List.Sublist.refl _ | exact List.sublist_append_left _ [] | apply List.Sublist.cons_cons | apply List.Sublist.cons | refine List.Sublist.append_left ?_ _ | refine List.sublist_append_of_sublist_right ?_)) (by first | exact Hp.le.refl _ | assumption | exact Hp.le.trans (by assumption) (by assumption)) ?_
          refine T.append [_] (lv := []) (bl := [_, _]) Wanted.none rfl rfl rfl (Vec.empty 40 2 _) (SpL.pre hv k1).src (one_flatS _) (by omega) ?_
          intro v1 lv1 hv1 _
          refine T.opsNil ?_
          refine TO.back ?_
          refine TO.step 7 rfl (by kernel_rfl) (by repeat (first | exact List.Sublist.slnil | exact List.nil_sublist _ | exact List.Sublist.refl _ | exact List.sublist_append_left _ [] | apply List.Sublist.cons_cons | apply List.Sublist.cons | refine List.Sublist.append_left ?_ _ | refine List.sublist_append_of_sublist_right ?_)) (by first | exact Hp.le.refl _ | assumption | exact Hp.le.trans (by assumption) (by assumption)) ?_
          refine T.append [_] (lv := lv1) (bl := [_, _]) Wanted.none rfl rfl rfl hv1 (Src.cells (m := 1) (ys := encS s) (.own (by repeat (first | exact List.Mem.head _ | apply List.Mem.tail | apply List.mem_append_right))) rfl rfl) (one_encS s) (by omega) ?_
          intro v2 lv2 hv2 _
          refine T.opsNil ?_
          refine TO.back ?_
          refine TO.step 11 rfl (by kernel_rfl) (by repeat (first | exact List.Sublist.slnil | exact List.nil_sublist _ | exact List.Sublist.refl _ | exact List.sublist_append_left _ [] | apply List.Sublist.cons_cons | apply List.Sublist.cons | refine List.Sublist.append_left ?_ _ | refine List.sublist_append_of_sublist_right ?_)) (by first | exact Hp.le.refl _ | assumption | exact Hp.le.trans (by assumption) (by assumption)) ?_
          refine T.append [_] (lv := lv2) (bl := [_, _]) Wanted.none rfl rfl rfl hv2 (SpL.suf hv k1).src (one_flatS _) (by omega) ?_
          intro v3 lv3 hv3 _
          refine T.opsNil ?_
          refine TO.back ?_
          refine TO.take 12 rfl (by kernel_rfl) (by kernel_rfl) (by kernel_rfl) (PV.assign rfl) Wanted.none rfl rfl ?_
          refine TO.done (by kernel_rfl) (by repeat (first | exact List.Sublist.slnil | exact List.nil_sublist _ | exact List.Sublist.refl _ | exact List.sublist_append_left _ [] | apply List.Sublist.cons_cons | apply List.Sublist.cons | refine List.Sublist.append_left ?_ _ | refine List.sublist_append_of_sublist_right ?_)) (by first | exact Hp.le.refl _ | assumption | exact Hp.le.trans (by assumption) (by assumption)) ?_
          refine T.retF (Vec.freezeLv (l' := []) hv3 (by rw [List.append_nil]; exact (.cons _ (List.sublist_append_left lv3 _))) fun H' _ hsl => Lv.fin (RV.tmp rfl rfl) ?_)
          exact app3 hsl k1 hres
      · (refine T.buildSlice Wanted.none rfl rfl (by repeat (first | exact FillAll.nil | (apply FillAll.cons; (first | exact CellsR.one rfl | exact CellsR.agg); exact rfl))) (by exact rfl) (by exact rfl) ?_; intro b63)
        refine T.opsNil ?_
        refine TO.back ?_
        refine TO.step 0 rfl (by kernel_rfl) (by repeat (first | exact List.Sublist.slnil | exact List.nil_sublist _ | exact List.Sublist.refl _ | exact List.sublist_append_left _ [] | apply List.Sublist.cons_cons | apply List.Sublist.cons | refine List.Sublist.append_left ?_ _ | refine List.sublist_append_of_sublist_right ?_)) (by first | exact Hp.le.refl _ | assumption | exact Hp.le.trans (by assumption) (by assumption)) ?_
        (refine T.buildSlice Wanted.none rfl rfl (by repeat (first | exact FillAll.nil | (apply FillAll.cons; (first | exact CellsR.one rfl | exact CellsR.agg); exact rfl))) (by exact rfl) (by exact rfl) ?_; intro b57)
        refine T.opsNil ?_
        refine TO.back ?_
        refine TO.step 4 rfl (by kernel_rfl) (by repeat (first | exact List.Sublist.slnil | exact List.nil_sublist _ | exact List.Sublist.refl _ | exact List.sublist_append_left _ [] | apply List.Sublist.cons_cons | apply List.Sublist.cons | refine List.Sublist.append_left ?_ _ | refine List.sublist_append_of_sublist_right ?_)) (by first | exact Hp.le.refl _ | assumption | exact Hp.le.trans (by assumption) (by assumption)) ?_
        refine T.append [_, _] (lv := []) (bl := [_]) Wanted.none rfl rfl rfl (Vec.empty 40 2 _) (SpL.pre hv k1).src (one_flatS _) (by omega) ?_
        intro v1 lv1 hv1 _
        refine T.opsNil ?_
        refine TO.back ?_
        refine TO.step 7 rfl (by kernel_rfl) (by repeat (first | exact List.Sublist.slnil | exact List.nil_sublist _ | exact List.Sublist.refl _ | exact List.sublist_append_left _ [] | apply List.Sublist.cons_cons | apply List.Sublist.cons | refine List.Sublist.append_left ?_ _ | refine List.sublist_append_of_sublist_right ?_)) (by first | exact Hp.le.refl _ | assumption | exact Hp.le.trans (by assumption) (by assumption)) ?_
        refine T.append [_, _] (lv := lv1) (bl := [_]) Wanted.none rfl rfl rfl hv1 (Src.cells (m := 1) (ys := encS s) (.own (by repeat (first | exact List.Mem.head _ | apply List.Mem.tail | apply List.mem_append_right))) rfl rfl) (one_encS s) (by omega) ?_
        intro v2 lv2 hv2 _
        refine T.opsNil ?_
        refine TO.back ?_
        refine TO.step 11 rfl (by kernel_rfl) (by repeat (first | exact List.Sublist.slnil | exact List.nil_sublist _ | exact List.Sublist.refl _ | exact List.sublist_append_left _ [] | apply List.Sublist.cons_cons | apply List.Sublist.cons | refine List.Sublist.append_left ?_ _ | refine List.sublist_append_of_sublist_right ?_)) (by first | exact Hp.le.refl _ | assumption | exact Hp.le.trans (by assumption) (by assumption)) ?_
        refine T.append [_, _] (lv := lv2) (bl := [_]) Wanted.none rfl rfl rfl hv2 (SpL.suf hv k1).src (one_flatS _) (by omega) ?_
        intro v3 lv3 hv3 _
        refine T.opsNil ?_
        refine TO.back ?_
        refine TO.take 12 rfl (by kernel_rfl) (by kernel_rfl) (by kernel_rfl) (PV.assign rfl) Wanted.none rfl rfl ?_
        refine TO.done (by kernel_rfl) (by repeat (first | exact List.Sublist.slnil | exact List.nil_sublist _ | exact List.Sublist.refl _ | exact List.sublist_append_left _ [] | apply List.Sublist.cons_cons | apply List.Sublist.cons | refine List.Sublist.append_left ?_ _ | refine List.sublist_append_of_sublist_right ?_)) (by first | exact Hp.le.refl _ | assumption | exact Hp.le.trans (by assumption) (by assumption)) ?_
        refine T.retF (Vec.freezeLv (l' := []) hv3 (by rw [List.append_nil]; exact (.cons _ (.cons _ (List.sublist_append_left lv3 _)))) fun H' _ hsl => Lv.fin (RV.tmp rfl rfl) ?_)
        exact app3 hsl k1 hres
end Go.Proofs.Ytceaicameojcaaa
