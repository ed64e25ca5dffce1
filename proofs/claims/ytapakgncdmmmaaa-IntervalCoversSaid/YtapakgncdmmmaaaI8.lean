/- interval: Overlapping, Containing. -/
import Derived.Test.YtapakgncdmmmaaaI7
namespace Go.Proofs.Ytapakgncdmmmaaa
open Go.RowKit

/-- What holds of a cover that was made of spans that begin up to some place. -/
structure CovOk (acc done : List Sp) : Prop where
  val : ∀ p ∈ acc, p.1 < p.2
  apart : acc.Pairwise (fun p q => p.2 < q.1)
  low : ∀ p ∈ acc, ∃ t ∈ done, p.1 = t.1
  inn : ∀ t ∈ done, ∃ p ∈ acc, p.1 ≤ t.1 ∧ t.2 ≤ p.2
  out : ∀ p ∈ acc, ∀ x : Int, p.1 ≤ x → x < p.2 → ∃ t ∈ done, t.1 ≤ x ∧ x < t.2
theorem CovOk.nil : CovOk [] [] := ⟨by simp, by simp, by simp, by simp, by simp⟩
theorem CovOk.step {acc done : List Sp} {s : Sp} (h : CovOk acc done) (hs : s.1 < s.2) (hlow : ∀ t ∈ done, t.1 ≤ s.1) : CovOk (covStep acc s) (done ++ [s]) := by
  cases hl : acc.getLast? with
  | none =>
    have : acc = [] := List.getLast?_eq_none_iff.1 hl
    subst this
    have hd : done = [] := by
      cases done with
      | nil => rfl
      | cons t d => obtain ⟨p, hp, _⟩ := h.inn t List.mem_cons_self; cases hp
    subst hd
    rw [covStep_nil]
    exact ⟨by simpa using hs, by simp, by simp, by simp, fun p hp x h1 h2 => ⟨s, by simp, by simp at hp; subst hp; exact ⟨h1, h2⟩⟩⟩
  | some t =>
    obtain ⟨ys, rfl⟩ := List.getLast?_eq_some_iff.1 hl
    have ht := h.val t (by simp)
    have hap := List.pairwise_append.1 h.apart
    by_cases hin : s.1 ≤ t.2
    · rw [covStep_in hl hin, List.dropLast_concat]
      obtain ⟨t0, ht0, he0⟩ := h.low t (by simp)
      have hts : t.1 ≤ s.1 := by have := hlow t0 ht0; omega
      refine ⟨?_, ?_, ?_, ?_, ?_⟩
      · intro p hp
        rcases List.mem_append.1 hp with h1 | h1
        · exact h.val p (by simp [h1])
        · obtain rfl := List.mem_singleton.1 h1; dsimp only; omega
      · refine List.pairwise_append.2 ⟨hap.1, by simp, ?_⟩
        intro p hp q hq
        obtain rfl := List.mem_singleton.1 hq
        exact hap.2.2 p hp t (by simp)
      · intro p hp
        rcases List.mem_append.1 hp with h1 | h1
        · obtain ⟨u, hu, he⟩ := h.low p (by simp [h1]); exact ⟨u, by simp [hu], he⟩
        · obtain rfl := List.mem_singleton.1 h1; exact ⟨t0, by simp [ht0], he0⟩
      · intro u hu
        rcases List.mem_append.1 hu with h1 | h1
        · obtain ⟨p, hp, a1, a2⟩ := h.inn u h1
          rcases List.mem_append.1 hp with h2 | h2
          · exact ⟨p, by simp [h2], a1, a2⟩
          · obtain rfl := List.mem_singleton.1 h2
            exact ⟨(p.1, max p.2 s.2), by simp, a1, by dsimp only; omega⟩
        · obtain rfl := List.mem_singleton.1 h1
          exact ⟨(t.1, max t.2 u.2), by simp, hts, by dsimp only; omega⟩
      · intro p hp x h1 h2
        rcases List.mem_append.1 hp with h3 | h3
        · obtain ⟨u, hu, a⟩ := h.out p (by simp [h3]) x h1 h2; exact ⟨u, by simp [hu], a⟩
        · obtain rfl := List.mem_singleton.1 h3
          dsimp only at h1 h2
          by_cases hx : x < t.2
          · obtain ⟨u, hu, a⟩ := h.out t (by simp) x h1 hx; exact ⟨u, by simp [hu], a⟩
          · exact ⟨s, by simp, by omega, by omega⟩
    · rw [covStep_out hl hin]
      refine ⟨?_, ?_, ?_, ?_, ?_⟩
      · intro p hp
        rcases List.mem_append.1 hp with h1 | h1
        · exact h.val p h1
        · obtain rfl := List.mem_singleton.1 h1; exact hs
      · refine List.pairwise_append.2 ⟨h.apart, by simp, ?_⟩
        intro p hp q hq
        obtain rfl := List.mem_singleton.1 hq
        rcases List.mem_append.1 hp with h1 | h1
        · have h3 := hap.2.2 p h1 t (by simp); have := h.val p (by simp [h1]); omega
        · obtain rfl := List.mem_singleton.1 h1; omega
      · intro p hp
        rcases List.mem_append.1 hp with h1 | h1
        · obtain ⟨u, hu, he⟩ := h.low p h1; exact ⟨u, by simp [hu], he⟩
        · obtain rfl := List.mem_singleton.1 h1; exact ⟨p, by simp, rfl⟩
      · intro u hu
        rcases List.mem_append.1 hu with h1 | h1
        · obtain ⟨p, hp, a⟩ := h.inn u h1; exact ⟨p, List.mem_append_left _ hp, a⟩
        · obtain rfl := List.mem_singleton.1 h1; exact ⟨u, by simp, by omega, by omega⟩
      · intro p hp x h1 h2
        rcases List.mem_append.1 hp with h3 | h3
        · obtain ⟨u, hu, a⟩ := h.out p h3 x h1 h2; exact ⟨u, by simp [hu], a⟩
        · obtain rfl := List.mem_singleton.1 h3; exact ⟨p, by simp, h1, h2⟩
theorem covOk_fold : ∀ (l acc done : List Sp), CovOk acc done → (∀ s ∈ l, s.1 < s.2) → (done ++ l).Pairwise (fun a b => a.1 ≤ b.1) → CovOk (l.foldl covStep acc) (done ++ l)
  | [], acc, done, h, _, _ => by simpa using h
  | s :: l, acc, done, h, hv, hp => by
    have h2 : done ++ s :: l = (done ++ [s]) ++ l := by simp
    rw [List.foldl_cons, h2]
    rw [h2] at hp
    have hpa := (List.pairwise_append.1 (List.pairwise_append.1 hp).1).2.2
    exact covOk_fold l _ _ (h.step (hv s List.mem_cons_self) (fun t ht => hpa t ht s (by simp))) (fun x hx => hv x (List.mem_cons_of_mem _ hx)) hp
theorem covL_ok {n : List Sp} (hv : ∀ s ∈ n, s.1 < s.2) (hp : n.Pairwise (fun a b => a.1 ≤ b.1)) : CovOk (covL n) n := by
  have := covOk_fold n [] [] CovOk.nil hv (by simpa using hp)
  exact this
theorem CovOk.sorted {acc done : List Sp} (h : CovOk acc done) : acc.Pairwise (fun a b => a.1 ≤ b.1) :=
  List.Pairwise.imp_of_mem (fun {a b} ha hb hab => by have := h.val a ha; omega) h.apart
theorem covL_len2 (n : List Sp) : (covL n).length ≤ n.length := by
  have := covL_len n []
  unfold covL
  simpa using this
theorem inO_cov {n : List Sp} (hv : ∀ s ∈ n, s.1 < s.2) (hp : n.Pairwise (fun a b => a.1 ≤ b.1)) (s : Sp) (hs : s.1 < s.2) : inO (covL n) s = inO n s := by
  have h := covL_ok hv hp
  rw [Bool.eq_iff_iff, inO, inO, List.any_eq_true, List.any_eq_true]
  constructor
  · rintro ⟨p, hpm, hq⟩
    have hq := of_decide_eq_true hq
    have hpv := h.val p hpm
    obtain ⟨t, ht, a1, a2⟩ := h.out p hpm (max p.1 s.1) (by omega) (by omega)
    exact ⟨t, ht, decide_eq_true ⟨by omega, by omega⟩⟩
  · rintro ⟨t, ht, hq⟩
    have hq := of_decide_eq_true hq
    obtain ⟨p, hpm, a1, a2⟩ := h.inn t ht
    exact ⟨p, hpm, decide_eq_true ⟨by omega, by omega⟩⟩
set_option maxHeartbeats 4000000 in
theorem overlapping_fn (a b : List Sp) (u v : Value) (H : Hp) (hu : SpL H u a) (hv : SpL H v b) (ha : a.length ≤ maxLen) (hb : b.length ≤ maxLen) : Fn Try.prog 25 #[u, v] H (ResL (chk2 a b) ((normS a).filter (inO (covL (normS b))))) := by
  obtain ⟨ada, capa, rfl⟩ := hu.len
  obtain ⟨adb, capb, rfl⟩ := hv.len
  refine Fn.of_T (vs := [.slice ada a.length capa, .slice adb b.length capb]) Try.func25 rfl rfl fun w => ?_
  refine T.seq ?_
  refine T.region ?_
  refine T.pv (PV.assign rfl) Wanted.none rfl rfl ?_
  refine T.pv (PV.assign rfl) Wanted.none rfl rfl ?_
  refine T.opsNil ?_
  refine T.seq ?_
  refine T.seq ?_
  refine T.region ?_
  refine T.pv (PV.move rfl) Wanted.none rfl rfl ?_
  refine T.pv (PV.move rfl) Wanted.none rfl rfl ?_
  (refine T.buildSlice Wanted.none rfl rfl (by repeat (first | exact FillAll.nil | (apply FillAll.cons; (first | exact CellsR.one rfl | exact CellsR.agg); exact rfl))) (by exact rfl) (by exact rfl) ?_; intro b14)
  refine T.freezeLit ?_
  intro H1 hle1 hH1
  have hu1 := hu.mono hle1
  have hv1 := hv.mono hle1
  by_cases hc : chk2 a b = 0
  · obtain ⟨hca, hcb⟩ := chk2_zero hc
    obtain ⟨hla, hoka⟩ := chk1_zero hca
    obtain ⟨hlb, hokb⟩ := chk1_zero hcb
    have hck := check2 hH1 hu1 hv1 ha hb
    rw [hc] at hck ⊢
    refine T.callV Wanted.none rfl rfl (hck) ?_
    refine T.pv (PV.assign rfl) Wanted.none rfl rfl ?_
    refine T.opsNil ?_
    refine T.seq ?_
    refine T.region ?_
    refine T.pv (PV.move rfl) Wanted.none rfl rfl ?_
    refine T.pv (PV.neq rfl rfl) Wanted.none rfl rfl ?_
    refine T.opsNil ?_
    refine T.condF rfl rfl ?_
    refine T.skip ?_
    refine T.seq ?_
    refine T.region ?_
    refine T.pv (PV.move rfl) Wanted.none rfl rfl ?_
    refine T.call Wanted.none rfl rfl (cover_fn b _ H1 hv1 hlb) ?_
    intro vb H2 hle2 hvb
    have hlnb : (covL (normS b)).length ≤ b.length := Nat.le_trans (covL_len2 _) (normS_len b)
    have hcv : CovOk (covL (normS b)) (normS b) := covL_ok (fun s hs => (hokb s ((normS_mem b s).1 hs)).2) (sortedS_fst (normS_sorted b))
    have hsb := hcv.sorted
    have hap := hcv.apart
    generalize covL (normS b) = nb at hvb hlnb hsb hap ⊢
    clear hcv
    obtain ⟨adnb, capnb, rfl⟩ := hvb.len
    have hu2 := hu1.mono hle2
    refine T.pv (PV.assign rfl) Wanted.none rfl rfl ?_
    refine T.opsNil ?_
    refine T.seq ?_
    refine T.region ?_
    refine T.pv (PV.assign rfl) Wanted.none rfl rfl ?_
    refine T.opsNil ?_
    refine T.seq ?_
    refine T.region ?_
    refine T.pv (PV.assign rfl) Wanted.none rfl rfl ?_
    refine T.opsNil ?_
    refine T.seq ?_
    refine T.seq ?_
    refine T.region ?_
    refine T.pv (PV.move rfl) Wanted.none rfl rfl ?_
    refine T.call Wanted.none rfl rfl (normal_fn a _ H2 hu2 (by omega)) ?_
    intro va H3 hle3 hva
    have hlna := normS_len a
    have hsa := sortedS_fst (normS_sorted a)
    generalize normS a = na at hva hlna hsa ⊢
    obtain ⟨adna, capna, rfl⟩ := hva.len
    have hvb3 := hvb.mono hle3
    refine T.pv (PV.lenSl rfl) Wanted.none rfl rfl ?_
    refine T.pv (PV.move rfl) Wanted.none rfl rfl ?_
    refine T.opsNil ?_
    refine T.block ?_
    refine T.loop (γ := WG) (fun g => g.i ≤ na.length ∧ g.k ≤ nb.length ∧ (∀ t ∈ nb.take g.k, ∀ s ∈ na.drop g.i, t.2 ≤ s.1) ∧ g.c = (na.take g.i).filter (inO nb) ∧ SpV g.v g.lv g.c)
      (fun g => [(24, .int .i64 (g.i : Int)), (23, .int .i64 (na.length : Int)), (22, .slice adna na.length capna), (7, .slice adnb nb.length capnb), (9, .int .i64 (g.k : Int)), (8, g.v)])
      (fun g => g.lv) (fun _ => H3) (fun g => na.length - g.i) ⟨0, 0, [], .slice none 0 0, []⟩ ⟨by simp, by simp, by simp, rfl, Vec.nil _ _⟩ (by repeat (first | exact trivial | refine And.intro rfl ?_)) (by repeat (first | exact List.Sublist.slnil | exact List.nil_sublist _ | exact List.Sublist.refl _ | exact List.sublist_append_left _ [] | apply List.Sublist.cons_cons | apply List.Sublist.cons | refine List.Sublist.append_left ?_ _ | refine List.sublist_append_of_sublist_right ?_)) rfl ?_
    rintro ⟨i, k, c, vc, lv⟩ ⟨i1, i2, i3, i4, i5⟩
    dsimp only at i1 i2 i3 i4 i5 ⊢
    have hcl := filter_len na (inO nb) i
    rw [← i4] at hcl
    obtain ⟨advc, capvc, rfl⟩ := i5.val
    by_cases hi : i < na.length
    · obtain ⟨s, hs⟩ : ∃ x, na[i]? = some x := ⟨_, List.getElem?_eq_getElem hi⟩
      obtain ⟨ba, offa, rfl, hsuba⟩ := hva.span hs
      have hdr := drop_cons hs
      have hsd : (na.drop i).Pairwise (fun a b => a.1 ≤ b.1) := hsa.sublist (List.drop_sublist _ _)
      rw [hdr] at hsd i3
      have hsd' := List.pairwise_cons.1 hsd
      refine T.seq ?_
      refine T.region ?_
      refine T.pv (PV.lss rfl rfl) Wanted.none rfl rfl ?_
      refine T.opsNil ?_
      refine T.seq ?_
      refine T.condT rfl (decide_eq_true (by omega)) ?_
      refine T.skip ?_
      refine T.seq ?_
      refine T.block ?_
      refine T.seq ?_
      refine T.region ?_
      refine T.pv (PV.indexAddr rfl rfl (by omega)) Wanted.none rfl rfl ?_
      refine T.pv (PV.loadSubAll rfl (by assumption) (by exact rfl)) Wanted.none rfl rfl ?_
      (refine T.alloc Wanted.none rfl ?_; intro b11)
      refine T.storeA Wanted.none rfl rfl (by repeat (first | exact trivial | refine And.intro rfl ?_)) (by exact rfl) (by repeat (first | exact Upd.head | apply Upd.tail | apply Upd.app)) (by repeat (first | exact Splice.nil | apply Splice.cons | apply Splice.skip)) ?_
      refine T.opsNil ?_
      refine T.seq ?_
      refine T.block ?_
      refine T.loop (γ := Nat) (fun k => k ≤ nb.length ∧ ∀ t ∈ nb.take k, t.2 ≤ s.1)
        (fun k => [(24, .int .i64 (i : Int)), (23, .int .i64 (na.length : Int)), (22, .slice (some ⟨ba, offa, none⟩) na.length capna), (7, .slice adnb nb.length capnb), (9, .int .i64 (k : Int)), (8, .slice advc c.length capvc), (11, .pointer (some ⟨b11, 0, none⟩))])
        (fun _ => (b11, .cells #[.int .i64 s.1, .int .i64 s.2] 23 (0, 0)) :: lv) (fun _ => H3) (fun k => nb.length - k) k ⟨i2, fun t ht => i3 t ht s List.mem_cons_self⟩ (by repeat (first | exact trivial | refine And.intro rfl ?_)) (by repeat (first | exact List.Sublist.slnil | exact List.nil_sublist _ | exact List.Sublist.refl _ | exact List.sublist_append_left _ [] | apply List.Sublist.cons_cons | apply List.Sublist.cons | refine List.Sublist.append_left ?_ _ | refine List.sublist_append_of_sublist_right ?_)) rfl ?_
      rintro k ⟨k1, k2⟩
      have hnext : ∀ t ∈ nb.take k, ∀ s' ∈ na.drop (i + 1), t.2 ≤ s'.1 := by
        intro t ht s' hs'
        have h1 := k2 t ht
        have h2 := hsd'.1 s' hs'
        omega
      by_cases hk : k < nb.length
      · obtain ⟨t, ht⟩ : ∃ x, nb[k]? = some x := ⟨_, List.getElem?_eq_getElem hk⟩
        obtain ⟨bb, offb, rfl, hsubb⟩ := hvb3.span ht
        by_cases hle : t.2 ≤ s.1
        · have htk : nb.take (k + 1) = nb.take k ++ [t] := by rw [List.take_add_one, ht]; rfl
          refine T.seq ?_
          refine T.seq ?_
          refine T.regionQ (by kernel_rfl) ?_
          refine TQ.pv (PV.move rfl) Wanted.none rfl rfl ?_
          refine TQ.pv (PV.move rfl) Wanted.none rfl rfl ?_
          refine TQ.pv (PV.lenSl rfl) Wanted.none rfl rfl ?_
          refine TQ.pv (PV.lss rfl rfl) Wanted.none rfl rfl ?_
          refine TQ.pv (PV.move rfl) Wanted.none rfl rfl ?_
          refine TQ.setT (d := 32) rfl (by omega) ?_
          refine TQ.pv (PV.move rfl) (Wanted.guard rfl rfl rfl) rfl rfl ?_
          refine TQ.pv (PV.move rfl) (Wanted.guard rfl rfl rfl) rfl rfl ?_
          refine TQ.pv (PV.indexAddr rfl rfl (by omega)) (Wanted.guard rfl rfl rfl) rfl rfl ?_
          refine TQ.pv (PV.fieldAddr rfl) (Wanted.guard rfl rfl rfl) rfl rfl ?_
          refine TQ.pv (PV.loadSub rfl (by assumption) rfl) (Wanted.guard rfl rfl rfl) rfl rfl ?_
          refine TQ.pv (PV.fieldAddr rfl) (Wanted.guard rfl rfl rfl) rfl rfl ?_
          refine TQ.pv (PV.load1 rfl (by first | exact .fro (by assumption) | exact .own (by repeat (first | exact List.Mem.head _ | apply List.Mem.tail | apply List.mem_append_right))) rfl) (Wanted.guard rfl rfl rfl) rfl rfl ?_
          refine TQ.pv (PV.leq rfl rfl) (Wanted.guard rfl rfl rfl) rfl rfl ?_
          refine TQ.pv (PV.pickT rfl rfl rfl) Wanted.none rfl rfl ?_
          refine TQ.nil ?_
          refine T.condT rfl (decide_eq_true (by omega)) ?_
          refine T.skip ?_
          refine T.block ?_
          refine T.region ?_
          refine T.pv (PV.move rfl) Wanted.none rfl rfl ?_
          refine T.pv (PV.add rfl rfl (by omega)) Wanted.none rfl rfl ?_
          refine T.pv (PV.assign rfl) Wanted.none rfl rfl ?_
          refine T.opsNil ?_
          refine T.blkEnd ?_
          refine T.next (k + 1) ⟨by omega, ?_⟩ (by omega) (by repeat (first | exact trivial | refine And.intro rfl ?_)) (by repeat (first | exact List.Sublist.slnil | exact List.nil_sublist _ | exact List.Sublist.refl _ | exact List.sublist_append_left _ [] | apply List.Sublist.cons_cons | apply List.Sublist.cons | refine List.Sublist.append_left ?_ _ | refine List.sublist_append_of_sublist_right ?_)) rfl
          intro t' ht'
          rw [htk] at ht'
          rcases List.mem_append.1 ht' with h | h
          · exact k2 t' h
          · obtain rfl := List.mem_singleton.1 h; exact hle
        · have hov := overlap_ok (s := s) k2 (fun t' ht' => by rw [ht] at ht'; cases ht'; omega) hsb
          rw [ht] at hov
          have hres := filter_snoc (p := inO nb) hs
          simp only at hov
          rw [hov, ← i4] at hres
          by_cases hin : t.1 < s.2
          · rw [decide_eq_true hin] at hres
            refine T.seq ?_
            refine T.seq ?_
            refine T.regionQ (by kernel_rfl) ?_
            refine TQ.pv (PV.move rfl) Wanted.none rfl rfl ?_
            refine TQ.pv (PV.move rfl) Wanted.none rfl rfl ?_
            refine TQ.pv (PV.lenSl rfl) Wanted.none rfl rfl ?_
            refine TQ.pv (PV.lss rfl rfl) Wanted.none rfl rfl ?_
            refine TQ.pv (PV.move rfl) Wanted.none rfl rfl ?_
            refine TQ.setT (d := 32) rfl (by omega) ?_
            refine TQ.pv (PV.move rfl) (Wanted.guard rfl rfl rfl) rfl rfl ?_
            refine TQ.pv (PV.move rfl) (Wanted.guard rfl rfl rfl) rfl rfl ?_
            refine TQ.pv (PV.indexAddr rfl rfl (by omega)) (Wanted.guard rfl rfl rfl) rfl rfl ?_
            refine TQ.pv (PV.fieldAddr rfl) (Wanted.guard rfl rfl rfl) rfl rfl ?_
            refine TQ.pv (PV.loadSub rfl (by assumption) rfl) (Wanted.guard rfl rfl rfl) rfl rfl ?_
            refine TQ.pv (PV.fieldAddr rfl) (Wanted.guard rfl rfl rfl) rfl rfl ?_
            refine TQ.pv (PV.load1 rfl (by first | exact .fro (by assumption) | exact .own (by repeat (first | exact List.Mem.head _ | apply List.Mem.tail | apply List.mem_append_right))) rfl) (Wanted.guard rfl rfl rfl) rfl rfl ?_
            refine TQ.pv (PV.leq rfl rfl) (Wanted.guard rfl rfl rfl) rfl rfl ?_
            refine TQ.pv (PV.pickT rfl rfl rfl) Wanted.none rfl rfl ?_
            refine TQ.nil ?_
            refine T.condF rfl (decide_eq_false (by omega)) ?_
            refine T.exit rfl ?_
            refine T.seq ?_
            refine T.regionQ (by kernel_rfl) ?_
            refine TQ.pv (PV.move rfl) Wanted.none rfl rfl ?_
            refine TQ.pv (PV.move rfl) Wanted.none rfl rfl ?_
            refine TQ.pv (PV.lenSl rfl) Wanted.none rfl rfl ?_
            refine TQ.pv (PV.lss rfl rfl) Wanted.none rfl rfl ?_
            refine TQ.pv (PV.move rfl) Wanted.none rfl rfl ?_
            refine TQ.setT (d := 48) rfl (by omega) ?_
            refine TQ.pv (PV.move rfl) (Wanted.guard rfl rfl rfl) rfl rfl ?_
            refine TQ.pv (PV.move rfl) (Wanted.guard rfl rfl rfl) rfl rfl ?_
            refine TQ.pv (PV.indexAddr rfl rfl (by omega)) (Wanted.guard rfl rfl rfl) rfl rfl ?_
            refine TQ.pv (PV.fieldAddr rfl) (Wanted.guard rfl rfl rfl) rfl rfl ?_
            refine TQ.pv (PV.loadSub rfl (by assumption) rfl) (Wanted.guard rfl rfl rfl) rfl rfl ?_
            refine TQ.pv (PV.fieldAddr rfl) (Wanted.guard rfl rfl rfl) rfl rfl ?_
            refine TQ.pv (PV.load1 rfl (by first | exact .fro (by assumption) | exact .own (by repeat (first | exact List.Mem.head _ | apply List.Mem.tail | apply List.mem_append_right))) rfl) (Wanted.guard rfl rfl rfl) rfl rfl ?_
            refine TQ.pv (PV.lss rfl rfl) (Wanted.guard rfl rfl rfl) rfl rfl ?_
            refine TQ.pv (PV.pickT rfl rfl rfl) Wanted.none rfl rfl ?_
            refine TQ.nil ?_
            refine T.condT rfl (decide_eq_true (by omega)) ?_
            refine T.region ?_
            refine T.pv (PV.move rfl) Wanted.none rfl rfl ?_
            refine T.pv (PV.loadAll rfl (by first | exact .fro (by assumption) | exact .own (by repeat (first | exact List.Mem.head _ | apply List.Mem.tail | apply List.mem_append_right))) (by exact rfl)) Wanted.none rfl rfl ?_
            (refine T.buildSlice Wanted.none rfl rfl (by repeat (first | exact FillAll.nil | (apply FillAll.cons; (first | exact CellsR.one rfl | exact CellsR.agg); exact rfl))) (by exact rfl) (by exact rfl) ?_; intro b60)
            refine T.appendE [_, _] (lv := lv) Wanted.none rfl rfl rfl i5 (Src.cells (m := 1) (ys := encS s) (.own (by repeat (first | exact List.Mem.head _ | apply List.Mem.tail | apply List.mem_append_right))) rfl rfl) (one_encS s) (by omega) ?_
            intro v2 lv2 hv2 _
            refine T.pv (PV.assign rfl) Wanted.none rfl rfl ?_
            refine T.opsNil ?_
            refine T.blkEnd ?_
            refine T.region ?_
            refine T.pv (PV.add rfl rfl (by omega)) Wanted.none rfl rfl ?_
            refine T.pv (PV.move rfl) Wanted.none rfl rfl ?_
            refine T.opsNil ?_
            refine T.next ⟨i + 1, k, c ++ [s], v2, lv2⟩ ⟨by dsimp only; omega, k1, hnext, hres.symm, ?_⟩ (by dsimp only; omega) (by repeat (first | exact trivial | refine And.intro rfl ?_)) (by repeat (first | exact List.Sublist.slnil | exact List.nil_sublist _ | exact List.Sublist.refl _ | exact List.sublist_append_left _ [] | apply List.Sublist.cons_cons | apply List.Sublist.cons | refine List.Sublist.append_left ?_ _ | refine List.sublist_append_of_sublist_right ?_)) rfl
            show Vec 23 2 _ _ _ _
            rw [List.length_append, List.flatMap_append]; exact hv2
          · rw [decide_eq_false hin] at hres
            refine T.seq ?_
            refine T.seq ?_
            refine T.regionQ (by kernel_rfl) ?_
            refine TQ.pv (PV.move rfl) Wanted.none rfl rfl ?_
            refine TQ.pv (PV.move rfl) Wanted.none rfl rfl ?_
            refine TQ.pv (PV.lenSl rfl) Wanted.none rfl rfl ?_
            refine TQ.pv (PV.lss rfl rfl) Wanted.none rfl rfl ?_
            refine TQ.pv (PV.move rfl) Wanted.none rfl rfl ?_
            refine TQ.setT (d := 32) rfl (by omega) ?_
            refine TQ.pv (PV.move rfl) (Wanted.guard rfl rfl rfl) rfl rfl ?_
            refine TQ.pv (PV.move rfl) (Wanted.guard rfl rfl rfl) rfl rfl ?_
            refine TQ.pv (PV.indexAddr rfl rfl (by omega)) (Wanted.guard rfl rfl rfl) rfl rfl ?_
            refine TQ.pv (PV.fieldAddr rfl) (Wanted.guard rfl rfl rfl) rfl rfl ?_
            refine TQ.pv (PV.loadSub rfl (by assumption) rfl) (Wanted.guard rfl rfl rfl) rfl rfl ?_
            refine TQ.pv (PV.fieldAddr rfl) (Wanted.guard rfl rfl rfl) rfl rfl ?_
            refine TQ.pv (PV.load1 rfl (by first | exact .fro (by assumption) | exact .own (by repeat (first | exact List.Mem.head _ | apply List.Mem.tail | apply List.mem_append_right))) rfl) (Wanted.guard rfl rfl rfl) rfl rfl ?_
            refine TQ.pv (PV.leq rfl rfl) (Wanted.guard rfl rfl rfl) rfl rfl ?_
            refine TQ.pv (PV.pickT rfl rfl rfl) Wanted.none rfl rfl ?_
            refine TQ.nil ?_
            refine T.condF rfl (decide_eq_false (by omega)) ?_
            refine T.exit rfl ?_
            refine T.seq ?_
            refine T.regionQ (by kernel_rfl) ?_
            refine TQ.pv (PV.move rfl) Wanted.none rfl rfl ?_
            refine TQ.pv (PV.move rfl) Wanted.none rfl rfl ?_
            refine TQ.pv (PV.lenSl rfl) Wanted.none rfl rfl ?_
            refine TQ.pv (PV.lss rfl rfl) Wanted.none rfl rfl ?_
            refine TQ.pv (PV.move rfl) Wanted.none rfl rfl ?_
            refine TQ.setT (d := 48) rfl (by omega) ?_
            refine TQ.pv (PV.move rfl) (Wanted.guard rfl rfl rfl) rfl rfl ?_
            refine TQ.pv (PV.move rfl) (Wanted.guard rfl rfl rfl) rfl rfl ?_
            refine TQ.pv (PV.indexAddr rfl rfl (by omega)) (Wanted.guard rfl rfl rfl) rfl rfl ?_
            refine TQ.pv (PV.fieldAddr rfl) (Wanted.guard rfl rfl rfl) rfl rfl ?_
            refine TQ.pv (PV.loadSub rfl (by assumption) rfl) (Wanted.guard rfl rfl rfl) rfl rfl ?_
            refine TQ.pv (PV.fieldAddr rfl) (Wanted.guard rfl rfl rfl) rfl rfl ?_
            refine TQ.pv (PV.load1 rfl (by first | exact .fro (by assumption) | exact .own (by repeat (first | exact List.Mem.head _ | apply List.Mem.tail | apply List.mem_append_right))) rfl) (Wanted.guard rfl rfl rfl) rfl rfl ?_
            refine TQ.pv (PV.lss rfl rfl) (Wanted.guard rfl rfl rfl) rfl rfl ?_
            refine TQ.pv (PV.pickT rfl rfl rfl) Wanted.none rfl rfl ?_
            refine TQ.nil ?_
            refine T.condF rfl (decide_eq_false (by omega)) ?_
            refine T.skip ?_
            refine T.blkEnd ?_
            refine T.region ?_
            refine T.pv (PV.add rfl rfl (by omega)) Wanted.none rfl rfl ?_
            refine T.pv (PV.move rfl) Wanted.none rfl rfl ?_
            refine T.opsNil ?_
            exact T.next ⟨i + 1, k, c, _, lv⟩ ⟨by dsimp only; omega, k1, hnext, by rw [hres]; simp, i5⟩ (by dsimp only; omega) (by repeat (first | exact trivial | refine And.intro rfl ?_)) (by repeat (first | exact List.Sublist.slnil | exact List.nil_sublist _ | exact List.Sublist.refl _ | exact List.sublist_append_left _ [] | apply List.Sublist.cons_cons | apply List.Sublist.cons | refine List.Sublist.append_left ?_ _ | refine List.sublist_append_of_sublist_right ?_)) rfl
      · have hno : nb[k]? = none := List.getElem?_eq_none (by omega)
        have hov := overlap_ok (s := s) k2 (fun t' ht' => by rw [hno] at ht'; cases ht') hsb
        rw [hno] at hov
        have hres := filter_snoc (p := inO nb) hs
        simp only at hov
        rw [hov, ← i4] at hres
        refine T.seq ?_
        refine T.seq ?_
        refine T.regionQ (by kernel_rfl) ?_
        refine TQ.pv (PV.move rfl) Wanted.none rfl rfl ?_
        refine TQ.pv (PV.move rfl) Wanted.none rfl rfl ?_
        refine TQ.pv (PV.lenSl rfl) Wanted.none rfl rfl ?_
        refine TQ.pv (PV.lss rfl rfl) Wanted.none rfl rfl ?_
        refine TQ.pv (PV.move rfl) Wanted.none rfl rfl ?_
        refine TQ.setF (d := 32) rfl (by omega) ?_
        refine TQ.pass (Unwanted.guard rfl rfl rfl) rfl rfl ?_
        refine TQ.pass (Unwanted.guard rfl rfl rfl) rfl rfl ?_
        refine TQ.pass (Unwanted.guard rfl rfl rfl) rfl rfl ?_
        refine TQ.pass (Unwanted.guard rfl rfl rfl) rfl rfl ?_
        refine TQ.pass (Unwanted.guard rfl rfl rfl) rfl rfl ?_
        refine TQ.pass (Unwanted.guard rfl rfl rfl) rfl rfl ?_
        refine TQ.pass (Unwanted.guard rfl rfl rfl) rfl rfl ?_
        refine TQ.pass (Unwanted.guard rfl rfl rfl) rfl rfl ?_
        refine TQ.pv (PV.pickF rfl rfl rfl) Wanted.none rfl rfl ?_
        refine TQ.nil ?_
        refine T.condF rfl rfl ?_
        refine T.exit rfl ?_
        refine T.seq ?_
        refine T.regionQ (by kernel_rfl) ?_
        refine TQ.pv (PV.move rfl) Wanted.none rfl rfl ?_
        refine TQ.pv (PV.move rfl) Wanted.none rfl rfl ?_
        refine TQ.pv (PV.lenSl rfl) Wanted.none rfl rfl ?_
        refine TQ.pv (PV.lss rfl rfl) Wanted.none rfl rfl ?_
        refine TQ.pv (PV.move rfl) Wanted.none rfl rfl ?_
        refine TQ.setF (d := 48) rfl (by omega) ?_
        refine TQ.pass (Unwanted.guard rfl rfl rfl) rfl rfl ?_
        refine TQ.pass (Unwanted.guard rfl rfl rfl) rfl rfl ?_
        refine TQ.pass (Unwanted.guard rfl rfl rfl) rfl rfl ?_
        refine TQ.pass (Unwanted.guard rfl rfl rfl) rfl rfl ?_
        refine TQ.pass (Unwanted.guard rfl rfl rfl) rfl rfl ?_
        refine TQ.pass (Unwanted.guard rfl rfl rfl) rfl rfl ?_
        refine TQ.pass (Unwanted.guard rfl rfl rfl) rfl rfl ?_
        refine TQ.pass (Unwanted.guard rfl rfl rfl) rfl rfl ?_
        refine TQ.pv (PV.pickF rfl rfl rfl) Wanted.none rfl rfl ?_
        refine TQ.nil ?_
        refine T.condF rfl rfl ?_
        refine T.skip ?_
        refine T.blkEnd ?_
        refine T.region ?_
        refine T.pv (PV.add rfl rfl (by omega)) Wanted.none rfl rfl ?_
        refine T.pv (PV.move rfl) Wanted.none rfl rfl ?_
        refine T.opsNil ?_
        exact T.next ⟨i + 1, k, c, _, lv⟩ ⟨by dsimp only; omega, k1, hnext, by rw [hres]; simp, i5⟩ (by dsimp only; omega) (by repeat (first | exact trivial | refine And.intro rfl ?_)) (by repeat (first | exact List.Sublist.slnil | exact List.nil_sublist _ | exact List.Sublist.refl _ | exact List.sublist_append_left _ [] | apply List.Sublist.cons_cons | apply List.Sublist.cons | refine List.Sublist.append_left ?_ _ | refine List.sublist_append_of_sublist_right ?_)) rfl
    · rw [List.take_of_length_le (by omega)] at i4
      refine T.seq ?_
      refine T.region ?_
      refine T.pv (PV.lss rfl rfl) Wanted.none rfl rfl ?_
      refine T.opsNil ?_
      refine T.seq ?_
      refine T.condF rfl (decide_eq_false (by omega)) ?_
      refine T.exit rfl ?_
      refine T.seq ?_
      refine T.region ?_
      refine T.pv (PV.move rfl) Wanted.none rfl rfl ?_
      refine T.pv (PV.assign rfl) Wanted.none rfl rfl ?_
      refine T.pv (PV.assign rfl) Wanted.none rfl rfl ?_
      refine T.opsNil ?_
      refine T.retF (Vec.freezeLv (l' := []) i5 (by rw [List.append_nil]; exact (by repeat (first | exact List.Sublist.slnil | exact List.nil_sublist _ | exact List.Sublist.refl _ | exact List.sublist_append_left _ [] | apply List.Sublist.cons_cons | apply List.Sublist.cons | refine List.Sublist.append_left ?_ _ | refine List.sublist_append_of_sublist_right ?_))) fun H' _ hsl => Lv.fin (RV.tmp2 rfl rfl rfl) ?_)
      rw [← i4]; exact ResL.ok rfl hsl
  · refine T.callV Wanted.none rfl rfl (check2 hH1 hu1 hv1 ha hb) ?_
    refine T.pv (PV.assign rfl) Wanted.none rfl rfl ?_
    refine T.opsNil ?_
    refine T.seq ?_
    refine T.region ?_
    refine T.pv (PV.move rfl) Wanted.none rfl rfl ?_
    refine T.pv (PV.neq rfl rfl) Wanted.none rfl rfl ?_
    refine T.opsNil ?_
    refine T.condT rfl (decide_eq_true (by omega)) ?_
    refine T.seq ?_
    refine T.region ?_
    refine T.pv (PV.move rfl) Wanted.none rfl rfl ?_
    refine T.pv (PV.assign rfl) Wanted.none rfl rfl ?_
    refine T.pv (PV.assign rfl) Wanted.none rfl rfl ?_
    refine T.opsNil ?_
    exact T.retF (Lv.fin (RV.tmp2 rfl rfl rfl) (ResL.err hc))
end Go.Proofs.Ytapakgncdmmmaaa
