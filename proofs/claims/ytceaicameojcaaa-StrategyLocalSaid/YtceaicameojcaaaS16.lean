/- strategy: the law Nests. -/
import Derived.Test.YtceaicameojcaaaS15
namespace Go.Proofs.Ytceaicameojcaaa
open Go.RowKit

def apartN (l : List Sp) : Prop := ∀ s ∈ l, ∀ t ∈ l, t ≠ s → ¬ (s.1 ≤ t.1 ∧ t.2 ≤ s.2)
set_option maxHeartbeats 4000000 in
theorem nests_fn (l : List Int) (v : Value) (H : Hp) (hv : InL H v l) (hl : l.length ≤ 9223372036854775807) (hr : ∀ x ∈ l, inI64 x) : Fn Try.prog 7 #[v] H (fun u _ => u = .bool true) := by
  refine Fn.of_T (vs := [v]) Try.func7 rfl rfl fun w => ?_
  refine T.seq ?_
  refine T.region ?_
  refine T.pv (PV.assign rfl) Wanted.none rfl rfl ?_
  refine T.opsNil ?_
  refine T.seq ?_
  refine T.region ?_
  refine T.pv (PV.move rfl) Wanted.none rfl rfl ?_
  refine T.call Wanted.none rfl rfl (list_fn l v H hv hl hr) ?_
  rintro u1 H1 hle1 ⟨x, L, hx, hg⟩
  have hxl : x.length ≤ 13 := hg.2.1
  refine T.pv (PV.assign rfl) Wanted.none rfl rfl ?_
  refine T.opsNil ?_
  refine T.seq ?_
  refine T.region ?_
  refine T.pv (PV.move rfl) Wanted.none rfl rfl ?_
  refine T.call Wanted.none rfl rfl (choose_fn 1 x u1 H1 hx (by omega)) ?_
  intro u2 H2 hle2 h2
  obtain ⟨v2, a2, rfl, h2, k2⟩ := choose_ok (hg.good (k := 1) (by omega)) h2
  have l2 : a2.length ≤ 13 := by rw [map_len k2]; exact Nat.le_trans (choose_sub 1 x).length_le hxl
  refine T.pv (PV.move rfl) Wanted.none rfl rfl ?_
  refine T.pv (PV.extract rfl rfl) Wanted.none rfl rfl ?_
  refine T.pv (PV.extract rfl rfl) Wanted.none rfl rfl ?_
  refine T.pv (PV.assign rfl) Wanted.none rfl rfl ?_
  refine T.pv (PV.assign rfl) Wanted.none rfl rfl ?_
  refine T.opsNil ?_
  refine T.seq ?_
  refine T.region ?_
  refine T.pv (PV.move rfl) Wanted.none rfl rfl ?_
  refine T.call Wanted.none rfl rfl (choose_fn 2 x u1 H2 (hx.mono hle2) (by omega)) ?_
  intro u3 H3 hle3 h3
  obtain ⟨v3, a3, rfl, h3, k3⟩ := choose_ok (hg.good (k := 2) (by omega)) h3
  have l3 : a3.length ≤ 13 := by rw [map_len k3]; exact Nat.le_trans (choose_sub 2 x).length_le hxl
  refine T.pv (PV.move rfl) Wanted.none rfl rfl ?_
  refine T.pv (PV.extract rfl rfl) Wanted.none rfl rfl ?_
  refine T.pv (PV.extract rfl rfl) Wanted.none rfl rfl ?_
  refine T.pv (PV.assign rfl) Wanted.none rfl rfl ?_
  refine T.pv (PV.assign rfl) Wanted.none rfl rfl ?_
  refine T.opsNil ?_
  refine T.seq ?_
  refine T.seq ?_
  refine T.region ?_
  refine T.pv (PV.move rfl) Wanted.none rfl rfl ?_
  refine T.pv (PV.neq rfl rfl) Wanted.none rfl rfl ?_
  refine T.pv (PV.move rfl) Wanted.none rfl rfl ?_
  refine T.pv (PV.move rfl) (Wanted.guard rfl rfl rfl) rfl rfl ?_
  refine T.pv (PV.neq rfl rfl) (Wanted.guard rfl rfl rfl) rfl rfl ?_
  refine T.pv (PV.pickF rfl rfl rfl) Wanted.none rfl rfl ?_
  refine T.opsNil ?_
  refine T.condF rfl rfl ?_
  refine T.skip ?_
  refine T.seq ?_
  refine T.region ?_
  refine T.pv (PV.move rfl) Wanted.none rfl rfl ?_
  refine T.call Wanted.none rfl rfl (spans_fn a2 v2 H3 (h2.mono hle3) (by omega)) ?_
  intro u4 H4 hle4 h4
  have hs4 : spM a2 = chosenL 1 (spM x) := by rw [spM_key k2, choose_spans]
  have hl4 : (spM a2).length ≤ 13 := Nat.le_trans (spM_len a2) l2
  have hp4 := spM_sorted a2
  rw [hs4] at h4 hl4 hp4
  refine T.pv (PV.move rfl) Wanted.none rfl rfl ?_
  refine T.call Wanted.none rfl rfl (spans_fn a3 v3 H4 (h3.mono hle4) (by omega)) ?_
  intro u5 H5 hle5 h5
  have hs5 : spM a3 = chosenL 2 (spM x) := by rw [spM_key k3, choose_spans]
  have hl5 : (spM a3).length ≤ 13 := Nat.le_trans (spM_len a3) l3
  have hp5 := spM_sorted a3
  rw [hs5] at h5 hl5 hp5
  have hn4 : apartN (chosenL 1 (spM x)) := fun s hs t ht hne => short_apart hs ht hne
  have hn5 : apartN (chosenL 2 (spM x)) := fun s hs t ht hne => long_apart hs ht hne
  have hin := fun {m} => short_in hg.ok (m := m)
  have hout := fun {m} => long_out (l := x) (m := m)
  replace h4 := h4.mono hle5
  have hx5 := hx.mono (((hle2.trans hle3).trans hle4).trans hle5)
  generalize chosenL 1 (spM x) = p at *
  generalize chosenL 2 (spM x) = q at *
  obtain ⟨adp, capp, rfl⟩ := h4.len
  obtain ⟨adq, capq, rfl⟩ := h5.len
  obtain ⟨adx, capx, rfl⟩ := hx5.1.len
  have hload : ∀ k : Nat, k < 2 → ∃ (ad : Option Addr) (pl : List Sp) (cap : Nat), [Value.slice adp p.length capp, .slice adq q.length capq][0 + ((k : Nat) : Int).toNat * 1]? = some (.slice ad pl.length cap) ∧ SpL H5 (.slice ad pl.length cap) pl ∧ pl.length ≤ 13 ∧ pl.Pairwise ltC ∧ apartN pl := by
    intro k hk
    rcases (by omega : k = 0 ∨ k = 1) with rfl | rfl
    · exact ⟨adp, p, capp, rfl, h4, hl4, hp4, hn4⟩
    · exact ⟨adq, q, capq, rfl, h5, hl5, hp5, hn5⟩
  refine T.pv (PV.assign rfl) Wanted.none rfl rfl ?_
  refine T.pv (PV.assign rfl) Wanted.none rfl rfl ?_
  refine T.opsNil ?_
  refine T.seq ?_
  refine T.seq ?_
  refine T.region ?_
  refine T.pv (PV.move rfl) Wanted.none rfl rfl ?_
  refine T.pv (PV.move rfl) Wanted.none rfl rfl ?_
  (refine T.buildSlice Wanted.none rfl rfl (by repeat (first | exact FillAll.nil | (apply FillAll.cons; (first | exact CellsR.one rfl | exact CellsR.agg); exact rfl))) (by exact rfl) (by exact rfl) ?_; intro b49)
  refine T.pv (PV.lenSl rfl) Wanted.none rfl rfl ?_
  refine T.pv (PV.move rfl) Wanted.none rfl rfl ?_
  refine T.opsNil ?_
  refine T.block ?_
  refine T.loop (γ := Nat) (fun k => k ≤ 2)
    (fun k => [(51, .int .i64 (k : Int)), (50, .int .i64 2), (49, .slice (some ⟨b49, 0, none⟩) 2 2), (3, .slice adx x.length capx), (8, .slice adp p.length capp), (9, .slice adq q.length capq)])
    (fun _ => [(b49, .cells #[.slice adp p.length capp, .slice adq q.length capq] 31 (0, 0))]) (fun _ => H5) (fun k => 2 - k) 0 (by omega) (by repeat (first | exact trivial | refine And.intro rfl ?_)) (by repeat (first | exact List.Sublist.slnil | exact List.nil_sublist _ | exact List.Sublist.refl _ | exact List.sublist_append_left _ [] | apply List.Sublist.cons_cons | apply List.Sublist.cons | refine List.Sublist.append_left ?_ _ | refine List.sublist_append_of_sublist_right ?_)) rfl ?_
  intro k hk
  by_cases hk2 : k < 2
  · obtain ⟨ad, pl, cap, hld, hpl, hpl13, hps, hpn⟩ := hload k hk2
    refine T.seq ?_
    refine T.region ?_
    refine T.pv (PV.lss rfl rfl) Wanted.none rfl rfl ?_
    refine T.opsNil ?_
    refine T.seq ?_
    refine T.condT rfl (decide_eq_true (by omega)) ?_
    refine T.skip ?_
    refine T.seq ?_
    refine T.block ?_
    refine T.seq ?_
    refine T.region ?_
    refine T.pv (PV.indexAddr rfl rfl (by omega)) Wanted.none rfl rfl ?_
    refine T.pv (PV.load1 rfl (.own (by repeat (first | exact List.Mem.head _ | apply List.Mem.tail | apply List.mem_append_right))) hld) Wanted.none rfl rfl ?_
    refine T.pv (PV.assign rfl) Wanted.none rfl rfl ?_
    refine T.opsNil ?_
    refine T.seq ?_
    refine T.region ?_
    refine T.pv (PV.move rfl) Wanted.none rfl rfl ?_
    refine T.pv (PV.lenSl rfl) Wanted.none rfl rfl ?_
    refine T.pv (PV.move rfl) Wanted.none rfl rfl ?_
    refine T.opsNil ?_
    refine T.block ?_
    refine T.loop (γ := Nat) (fun i => i ≤ pl.length)
      (fun i => [(57, .int .i64 (i : Int)), (56, .int .i64 (pl.length : Int)), (55, .slice ad pl.length cap), (11, .slice ad pl.length cap), (51, .int .i64 (k : Int)), (50, .int .i64 2), (49, .slice (some ⟨b49, 0, none⟩) 2 2), (3, .slice adx x.length capx), (8, .slice adp p.length capp), (9, .slice adq q.length capq)])
      (fun _ => [(b49, .cells #[.slice adp p.length capp, .slice adq q.length capq] 31 (0, 0))]) (fun _ => H5) (fun i => pl.length - i) 0 (by omega) (by repeat (first | exact trivial | refine And.intro rfl ?_)) (by repeat (first | exact List.Sublist.slnil | exact List.nil_sublist _ | exact List.Sublist.refl _ | exact List.sublist_append_left _ [] | apply List.Sublist.cons_cons | apply List.Sublist.cons | refine List.Sublist.append_left ?_ _ | refine List.sublist_append_of_sublist_right ?_)) rfl ?_
    intro i hi
    by_cases hi2 : i < pl.length
    · obtain ⟨s, hs⟩ : ∃ y, pl[i]? = some y := ⟨_, List.getElem?_eq_getElem hi2⟩
      obtain ⟨bp, off, rfl, hsub⟩ := hpl.span hs
      refine T.seq ?_
      refine T.region ?_
      refine T.pv (PV.lss rfl rfl) Wanted.none rfl rfl ?_
      refine T.opsNil ?_
      refine T.seq ?_
      refine T.condT rfl (decide_eq_true (by omega)) ?_
      refine T.skip ?_
      refine T.seq ?_
      refine T.block ?_
      refine T.seq ?_
      refine T.region ?_
      refine T.pv (PV.move rfl) Wanted.none rfl rfl ?_
      refine T.pv (PV.indexAddr rfl rfl (by omega)) Wanted.none rfl rfl ?_
      refine T.pv (PV.loadSubAll rfl (by assumption) (by exact rfl)) Wanted.none rfl rfl ?_
      (refine T.alloc Wanted.none rfl ?_; intro b13)
      refine T.pv (PV.assign rfl) Wanted.none rfl rfl ?_
      refine T.storeA Wanted.none rfl rfl (by repeat (first | exact trivial | refine And.intro rfl ?_)) (by exact rfl) (by repeat (first | exact Upd.head | apply Upd.tail | apply Upd.app)) (by repeat (first | exact Splice.nil | apply Splice.cons | apply Splice.skip)) ?_
      refine T.opsNil ?_
      refine T.seq ?_
      refine T.region ?_
      refine T.pv (PV.move rfl) Wanted.none rfl rfl ?_
      refine T.pv (PV.lenSl rfl) Wanted.none rfl rfl ?_
      refine T.pv (PV.move rfl) Wanted.none rfl rfl ?_
      refine T.opsNil ?_
      refine T.block ?_
      refine T.loop (γ := Nat) (fun j => j ≤ pl.length)
        (fun j => [(64, .int .i64 (j : Int)), (63, .int .i64 (pl.length : Int)), (62, .slice (some ⟨bp, off, none⟩) pl.length cap), (13, .pointer (some ⟨b13, 0, none⟩)), (12, .int .i64 (i : Int)), (57, .int .i64 (i : Int)), (56, .int .i64 (pl.length : Int)), (55, .slice (some ⟨bp, off, none⟩) pl.length cap), (11, .slice (some ⟨bp, off, none⟩) pl.length cap), (51, .int .i64 (k : Int)), (50, .int .i64 2), (49, .slice (some ⟨b49, 0, none⟩) 2 2), (3, .slice adx x.length capx), (8, .slice adp p.length capp), (9, .slice adq q.length capq)])
        (fun _ => [(b13, .cells #[.int .i64 s.1, .int .i64 s.2] 40 (0, 0)), (b49, .cells #[.slice adp p.length capp, .slice adq q.length capq] 31 (0, 0))]) (fun _ => H5) (fun j => pl.length - j) 0 (by omega) (by repeat (first | exact trivial | refine And.intro rfl ?_)) (by repeat (first | exact List.Sublist.slnil | exact List.nil_sublist _ | exact List.Sublist.refl _ | exact List.sublist_append_left _ [] | apply List.Sublist.cons_cons | apply List.Sublist.cons | refine List.Sublist.append_left ?_ _ | refine List.sublist_append_of_sublist_right ?_)) rfl ?_
      intro j hj
      by_cases hj2 : j < pl.length
      · obtain ⟨t, ht⟩ : ∃ y, pl[j]? = some y := ⟨_, List.getElem?_eq_getElem hj2⟩
        have hsub2 := hpl.spanP ht
        by_cases hij : i = j
        · refine T.seq ?_
          refine T.region ?_
          refine T.pv (PV.lss rfl rfl) Wanted.none rfl rfl ?_
          refine T.opsNil ?_
          refine T.seq ?_
          refine T.condT rfl (decide_eq_true (by omega)) ?_
          refine T.skip ?_
          refine T.seq ?_
          refine T.block ?_
          refine T.seq ?_
          refine T.region ?_
          refine T.pv (PV.move rfl) Wanted.none rfl rfl ?_
          refine T.pv (PV.indexAddr rfl rfl (by omega)) Wanted.none rfl rfl ?_
          refine T.pv (PV.loadSubAll rfl (by assumption) (by exact rfl)) Wanted.none rfl rfl ?_
          (refine T.alloc Wanted.none rfl ?_; intro b15)
          refine T.pv (PV.assign rfl) Wanted.none rfl rfl ?_
          refine T.storeA Wanted.none rfl rfl (by repeat (first | exact trivial | refine And.intro rfl ?_)) (by exact rfl) (by repeat (first | exact Upd.head | apply Upd.tail | apply Upd.app)) (by repeat (first | exact Splice.nil | apply Splice.cons | apply Splice.skip)) ?_
          refine T.opsNil ?_
          refine T.seq ?_
          refine T.region ?_
          refine T.pv (PV.move rfl) Wanted.none rfl rfl ?_
          refine T.pv (PV.move rfl) Wanted.none rfl rfl ?_
          refine T.pv (PV.neq rfl rfl) Wanted.none rfl rfl ?_
          refine T.pv (PV.move rfl) Wanted.none rfl rfl ?_
          refine T.setF (d := 72) rfl (by omega) ?_
          refine T.pass (Unwanted.guard rfl rfl rfl) rfl rfl ?_
          refine T.pass (Unwanted.guard rfl rfl rfl) rfl rfl ?_
          refine T.pass (Unwanted.guard rfl rfl rfl) rfl rfl ?_
          refine T.pv (PV.pickF rfl rfl rfl) Wanted.none rfl rfl ?_
          refine T.opsNil ?_
          refine T.condF rfl rfl ?_
          refine T.skip ?_
          refine T.blkEnd ?_
          refine T.region ?_
          refine T.pv (PV.add rfl rfl (by omega)) Wanted.none rfl rfl ?_
          refine T.pv (PV.move rfl) Wanted.none rfl rfl ?_
          refine T.opsNil ?_
          exact T.next (j + 1) (by omega) (by omega) (by repeat (first | exact trivial | refine And.intro rfl ?_)) (by repeat (first | exact List.Sublist.slnil | exact List.nil_sublist _ | exact List.Sublist.refl _ | exact List.sublist_append_left _ [] | apply List.Sublist.cons_cons | apply List.Sublist.cons | refine List.Sublist.append_left ?_ _ | refine List.sublist_append_of_sublist_right ?_)) rfl
        · have hne : t ≠ s := by
            rintro rfl
            rcases Nat.lt_or_ge i j with h | h
            · exact ltC_sto.irr _ (asc_at hps hs ht h)
            · exact ltC_sto.irr _ (asc_at hps ht hs (by omega))
          have hc := contains_fn s t H5
          rw [decide_eq_false (hpn s (List.mem_of_getElem? hs) t (List.mem_of_getElem? ht) hne)] at hc
          unfold spV at hc
          refine T.seq ?_
          refine T.region ?_
          refine T.pv (PV.lss rfl rfl) Wanted.none rfl rfl ?_
          refine T.opsNil ?_
          refine T.seq ?_
          refine T.condT rfl (decide_eq_true (by omega)) ?_
          refine T.skip ?_
          refine T.seq ?_
          refine T.block ?_
          refine T.seq ?_
          refine T.region ?_
          refine T.pv (PV.move rfl) Wanted.none rfl rfl ?_
          refine T.pv (PV.indexAddr rfl rfl (by omega)) Wanted.none rfl rfl ?_
          refine T.pv (PV.loadSubAll rfl (by assumption) (by exact rfl)) Wanted.none rfl rfl ?_
          (refine T.alloc Wanted.none rfl ?_; intro b15)
          refine T.pv (PV.assign rfl) Wanted.none rfl rfl ?_
          refine T.storeA Wanted.none rfl rfl (by repeat (first | exact trivial | refine And.intro rfl ?_)) (by exact rfl) (by repeat (first | exact Upd.head | apply Upd.tail | apply Upd.app)) (by repeat (first | exact Splice.nil | apply Splice.cons | apply Splice.skip)) ?_
          refine T.opsNil ?_
          refine T.seq ?_
          refine T.region ?_
          refine T.pv (PV.move rfl) Wanted.none rfl rfl ?_
          refine T.pv (PV.move rfl) Wanted.none rfl rfl ?_
          refine T.pv (PV.neq rfl rfl) Wanted.none rfl rfl ?_
          refine T.pv (PV.move rfl) Wanted.none rfl rfl ?_
          refine T.setT (d := 72) rfl (by omega) ?_
          refine T.pv (PV.loadAll rfl (by first | exact .fro (by assumption) | exact .own (by repeat (first | exact List.Mem.head _ | apply List.Mem.tail | apply List.mem_append_right))) (by exact rfl)) (Wanted.guard rfl rfl rfl) rfl rfl ?_
          refine T.pv (PV.loadAll rfl (by first | exact .fro (by assumption) | exact .own (by repeat (first | exact List.Mem.head _ | apply List.Mem.tail | apply List.mem_append_right))) (by exact rfl)) (Wanted.guard rfl rfl rfl) rfl rfl ?_
          refine T.callV (Wanted.guard rfl rfl rfl) rfl rfl (hc) ?_
          refine T.pv (PV.pickT rfl rfl rfl) Wanted.none rfl rfl ?_
          refine T.opsNil ?_
          refine T.condF rfl rfl ?_
          refine T.skip ?_
          refine T.blkEnd ?_
          refine T.region ?_
          refine T.pv (PV.add rfl rfl (by omega)) Wanted.none rfl rfl ?_
          refine T.pv (PV.move rfl) Wanted.none rfl rfl ?_
          refine T.opsNil ?_
          exact T.next (j + 1) (by omega) (by omega) (by repeat (first | exact trivial | refine And.intro rfl ?_)) (by repeat (first | exact List.Sublist.slnil | exact List.nil_sublist _ | exact List.Sublist.refl _ | exact List.sublist_append_left _ [] | apply List.Sublist.cons_cons | apply List.Sublist.cons | refine List.Sublist.append_left ?_ _ | refine List.sublist_append_of_sublist_right ?_)) rfl
      · refine T.seq ?_
        refine T.region ?_
        refine T.pv (PV.lss rfl rfl) Wanted.none rfl rfl ?_
        refine T.opsNil ?_
        refine T.seq ?_
        refine T.condF rfl (decide_eq_false (by omega)) ?_
        refine T.exit rfl ?_
        refine T.blkEnd ?_
        refine T.region ?_
        refine T.pv (PV.add rfl rfl (by omega)) Wanted.none rfl rfl ?_
        refine T.pv (PV.move rfl) Wanted.none rfl rfl ?_
        refine T.opsNil ?_
        exact T.next (i + 1) (by omega) (by omega) (by repeat (first | exact trivial | refine And.intro rfl ?_)) (by repeat (first | exact List.Sublist.slnil | exact List.nil_sublist _ | exact List.Sublist.refl _ | exact List.sublist_append_left _ [] | apply List.Sublist.cons_cons | apply List.Sublist.cons | refine List.Sublist.append_left ?_ _ | refine List.sublist_append_of_sublist_right ?_)) rfl
    · refine T.seq ?_
      refine T.region ?_
      refine T.pv (PV.lss rfl rfl) Wanted.none rfl rfl ?_
      refine T.opsNil ?_
      refine T.seq ?_
      refine T.condF rfl (decide_eq_false (by omega)) ?_
      refine T.exit rfl ?_
      refine T.blkEnd ?_
      refine T.region ?_
      refine T.pv (PV.add rfl rfl (by omega)) Wanted.none rfl rfl ?_
      refine T.pv (PV.move rfl) Wanted.none rfl rfl ?_
      refine T.opsNil ?_
      exact T.next (k + 1) (by omega) (by omega) (by repeat (first | exact trivial | refine And.intro rfl ?_)) (by repeat (first | exact List.Sublist.slnil | exact List.nil_sublist _ | exact List.Sublist.refl _ | exact List.sublist_append_left _ [] | apply List.Sublist.cons_cons | apply List.Sublist.cons | refine List.Sublist.append_left ?_ _ | refine List.sublist_append_of_sublist_right ?_)) rfl
  refine T.seq ?_
  refine T.region ?_
  refine T.pv (PV.lss rfl rfl) Wanted.none rfl rfl ?_
  refine T.opsNil ?_
  refine T.seq ?_
  refine T.condF rfl (decide_eq_false (by omega)) ?_
  refine T.exit rfl ?_
  refine T.seq ?_
  refine T.seq ?_
  refine T.region ?_
  refine T.pv (PV.move rfl) Wanted.none rfl rfl ?_
  refine T.pv (PV.lenSl rfl) Wanted.none rfl rfl ?_
  refine T.pv (PV.move rfl) Wanted.none rfl rfl ?_
  refine T.opsNil ?_
  refine T.block ?_
  refine T.loop (γ := Nat) (fun i => i ≤ x.length)
    (fun i => [(82, .int .i64 (i : Int)), (81, .int .i64 (x.length : Int)), (80, .slice adx x.length capx), (8, .slice adp p.length capp), (9, .slice adq q.length capq)])
    (fun _ => []) (fun _ => H5) (fun i => x.length - i) 0 (by omega) (by repeat (first | exact trivial | refine And.intro rfl ?_)) (by repeat (first | exact List.Sublist.slnil | exact List.nil_sublist _ | exact List.Sublist.refl _ | exact List.sublist_append_left _ [] | apply List.Sublist.cons_cons | apply List.Sublist.cons | refine List.Sublist.append_left ?_ _ | refine List.sublist_append_of_sublist_right ?_)) rfl ?_
  intro i hi
  by_cases hi2 : i < x.length
  · obtain ⟨m, hm⟩ : ∃ y, x[i]? = some y := ⟨_, List.getElem?_eq_getElem hi2⟩
    have hmem := List.mem_of_getElem? hm
    obtain ⟨b, off, rfl, hsub⟩ := hx5.1.matchAt hm
    obtain ⟨am, cm, hmv⟩ := (hx5.2 m hmem).1.len
    rw [hmv] at hsub
    obtain ⟨pi, hpi⟩ : ∃ f : Sp → Bool, f = fun t => decide (m.b ≤ t.1 ∧ t.2 ≤ m.e) := ⟨_, rfl⟩
    obtain ⟨po, hpo⟩ : ∃ f : Sp → Bool, f = fun t => decide (t.1 ≤ m.b ∧ m.e ≤ t.2) := ⟨_, rfl⟩
    have halli : p.any pi = true := by
      obtain ⟨t, h1, h2, h3⟩ := hin hmem
      exact List.any_eq_true.2 ⟨t, h1, by rw [hpi]; exact decide_eq_true ⟨h2, h3⟩⟩
    have hallo : q.any po = true := by
      obtain ⟨t, h1, h2, h3⟩ := hout hmem
      exact List.any_eq_true.2 ⟨t, h1, by rw [hpo]; exact decide_eq_true ⟨h2, h3⟩⟩
    refine T.seq ?_
    refine T.region ?_
    refine T.pv (PV.lss rfl rfl) Wanted.none rfl rfl ?_
    refine T.opsNil ?_
    refine T.seq ?_
    refine T.condT rfl (decide_eq_true (by omega)) ?_
    refine T.skip ?_
    refine T.seq ?_
    refine T.block ?_
    refine T.seq ?_
    refine T.region ?_
    refine T.pv (PV.indexAddr rfl rfl (by omega)) Wanted.none rfl rfl ?_
    refine T.pv (PV.loadSubAll rfl (by assumption) (by exact rfl)) Wanted.none rfl rfl ?_
    (refine T.alloc Wanted.none rfl ?_; intro b17)
    refine T.storeA Wanted.none rfl rfl (by repeat (first | exact trivial | refine And.intro rfl ?_)) (by exact rfl) (by repeat (first | exact Upd.head | apply Upd.tail | apply Upd.app)) (by repeat (first | exact Splice.nil | apply Splice.cons | apply Splice.skip)) ?_
    refine T.opsNil ?_
    refine T.seq ?_
    refine T.region ?_
    refine T.pv (PV.fieldAddr rfl) Wanted.none rfl rfl ?_
    refine T.pv (PV.load1 rfl (by first | exact .fro (by assumption) | exact .own (by repeat (first | exact List.Mem.head _ | apply List.Mem.tail | apply List.mem_append_right))) rfl) Wanted.none rfl rfl ?_
    refine T.pv (PV.fieldAddr rfl) Wanted.none rfl rfl ?_
    refine T.pv (PV.load1 rfl (by first | exact .fro (by assumption) | exact .own (by repeat (first | exact List.Mem.head _ | apply List.Mem.tail | apply List.mem_append_right))) rfl) Wanted.none rfl rfl ?_
    refine T.pv (PV.build rfl (by repeat (first | exact FillR.nil | (apply FillR.cons rfl; (first | exact CellsR.one rfl | exact CellsR.agg); rfl; repeat (first | exact Splice.nil | apply Splice.cons | apply Splice.skip))))) Wanted.none rfl rfl ?_
    (refine T.alloc Wanted.none rfl ?_; intro b18)
    refine T.storeA Wanted.none rfl rfl (by repeat (first | exact trivial | refine And.intro rfl ?_)) (by exact rfl) (by repeat (first | exact Upd.head | apply Upd.tail | apply Upd.app)) (by repeat (first | exact Splice.nil | apply Splice.cons | apply Splice.skip)) ?_
    refine T.opsNil ?_
    refine T.seq ?_
    refine T.region ?_
    refine T.pv (PV.assign rfl) Wanted.none rfl rfl ?_
    refine T.pv (PV.assign rfl) Wanted.none rfl rfl ?_
    refine T.opsNil ?_
    refine T.seq ?_
    refine T.seq ?_
    refine T.region ?_
    refine T.pv (PV.move rfl) Wanted.none rfl rfl ?_
    refine T.pv (PV.lenSl rfl) Wanted.none rfl rfl ?_
    refine T.pv (PV.move rfl) Wanted.none rfl rfl ?_
    refine T.opsNil ?_
    refine T.block ?_
    refine T.loop (γ := Nat) (fun j => j ≤ p.length)
      (fun j => [(93, .int .i64 (j : Int)), (92, .int .i64 (p.length : Int)), (91, .slice adp p.length capp), (19, .bool ((p.take j).any pi)), (20, .bool false), (18, .pointer (some ⟨b18, 0, none⟩)), (82, .int .i64 (i : Int)), (81, .int .i64 (x.length : Int)), (80, .slice (some ⟨b, off, none⟩) x.length capx), (8, .slice adp p.length capp), (9, .slice adq q.length capq)])
      (fun _ => [(b18, .cells #[.int .i64 m.b, .int .i64 m.e] 40 (0, 0))]) (fun _ => H5) (fun j => p.length - j) 0 (by omega) (by repeat (first | exact trivial | refine And.intro rfl ?_)) (by repeat (first | exact List.Sublist.slnil | exact List.nil_sublist _ | exact List.Sublist.refl _ | exact List.sublist_append_left _ [] | apply List.Sublist.cons_cons | apply List.Sublist.cons | refine List.Sublist.append_left ?_ _ | refine List.sublist_append_of_sublist_right ?_)) rfl ?_
    intro j hj
    by_cases hj2 : j < p.length
    · obtain ⟨t, ht⟩ : ∃ y, p[j]? = some y := ⟨_, List.getElem?_eq_getElem hj2⟩
      obtain ⟨bp, offp, rfl, hsubp⟩ := h4.span ht
      have htk := any_take (p := pi) ht
      cases hq : (p.take j).any pi with
      | true =>
        rw [hq, Bool.true_or] at htk
        refine T.seq ?_
        refine T.region ?_
        refine T.pv (PV.lss rfl rfl) Wanted.none rfl rfl ?_
        refine T.opsNil ?_
        refine T.seq ?_
        refine T.condT rfl (decide_eq_true (by omega)) ?_
        refine T.skip ?_
        refine T.seq ?_
        refine T.block ?_
        refine T.seq ?_
        refine T.region ?_
        refine T.pv (PV.indexAddr rfl rfl (by omega)) Wanted.none rfl rfl ?_
        refine T.pv (PV.loadSubAll rfl (by assumption) (by exact rfl)) Wanted.none rfl rfl ?_
        (refine T.alloc Wanted.none rfl ?_; intro b22)
        refine T.storeA Wanted.none rfl rfl (by repeat (first | exact trivial | refine And.intro rfl ?_)) (by exact rfl) (by repeat (first | exact Upd.head | apply Upd.tail | apply Upd.app)) (by repeat (first | exact Splice.nil | apply Splice.cons | apply Splice.skip)) ?_
        refine T.opsNil ?_
        refine T.region ?_
        refine T.pv (PV.move rfl) Wanted.none rfl rfl ?_
        refine T.pv (PV.move rfl) Wanted.none rfl rfl ?_
        refine T.pass (Unwanted.guard rfl rfl rfl) rfl rfl ?_
        refine T.pass (Unwanted.guard rfl rfl rfl) rfl rfl ?_
        refine T.pass (Unwanted.guard rfl rfl rfl) rfl rfl ?_
        refine T.pv (PV.pickT rfl rfl rfl) Wanted.none rfl rfl ?_
        refine T.pv (PV.assign rfl) Wanted.none rfl rfl ?_
        refine T.opsNil ?_
        refine T.blkEnd ?_
        refine T.region ?_
        refine T.pv (PV.add rfl rfl (by omega)) Wanted.none rfl rfl ?_
        refine T.pv (PV.move rfl) Wanted.none rfl rfl ?_
        refine T.opsNil ?_
        rw [← htk]
        exact T.next (j + 1) (by omega) (by omega) (by repeat (first | exact trivial | refine And.intro rfl ?_)) (by repeat (first | exact List.Sublist.slnil | exact List.nil_sublist _ | exact List.Sublist.refl _ | exact List.sublist_append_left _ [] | apply List.Sublist.cons_cons | apply List.Sublist.cons | refine List.Sublist.append_left ?_ _ | refine List.sublist_append_of_sublist_right ?_)) rfl
      | false =>
        rw [hq, Bool.false_or] at htk
        have hc := contains_fn (m.b, m.e) t H5
        have hce : decide ((m.b, m.e).1 ≤ t.1 ∧ t.2 ≤ (m.b, m.e).2) = pi t := by rw [hpi]
        rw [hce, ← htk] at hc
        unfold spV at hc
        refine T.seq ?_
        refine T.region ?_
        refine T.pv (PV.lss rfl rfl) Wanted.none rfl rfl ?_
        refine T.opsNil ?_
        refine T.seq ?_
        refine T.condT rfl (decide_eq_true (by omega)) ?_
        refine T.skip ?_
        refine T.seq ?_
        refine T.block ?_
        refine T.seq ?_
        refine T.region ?_
        refine T.pv (PV.indexAddr rfl rfl (by omega)) Wanted.none rfl rfl ?_
        refine T.pv (PV.loadSubAll rfl (by assumption) (by exact rfl)) Wanted.none rfl rfl ?_
        (refine T.alloc Wanted.none rfl ?_; intro b22)
        refine T.storeA Wanted.none rfl rfl (by repeat (first | exact trivial | refine And.intro rfl ?_)) (by exact rfl) (by repeat (first | exact Upd.head | apply Upd.tail | apply Upd.app)) (by repeat (first | exact Splice.nil | apply Splice.cons | apply Splice.skip)) ?_
        refine T.opsNil ?_
        refine T.region ?_
        refine T.pv (PV.move rfl) Wanted.none rfl rfl ?_
        refine T.pv (PV.move rfl) Wanted.none rfl rfl ?_
        refine T.pv (PV.loadAll rfl (by first | exact .fro (by assumption) | exact .own (by repeat (first | exact List.Mem.head _ | apply List.Mem.tail | apply List.mem_append_right))) (by exact rfl)) (Wanted.guard rfl rfl rfl) rfl rfl ?_
        refine T.pv (PV.loadAll rfl (by first | exact .fro (by assumption) | exact .own (by repeat (first | exact List.Mem.head _ | apply List.Mem.tail | apply List.mem_append_right))) (by exact rfl)) (Wanted.guard rfl rfl rfl) rfl rfl ?_
        refine T.callV (Wanted.guard rfl rfl rfl) rfl rfl (hc) ?_
        refine T.pv (PV.pickF rfl rfl rfl) Wanted.none rfl rfl ?_
        refine T.pv (PV.assign rfl) Wanted.none rfl rfl ?_
        refine T.opsNil ?_
        refine T.blkEnd ?_
        refine T.region ?_
        refine T.pv (PV.add rfl rfl (by omega)) Wanted.none rfl rfl ?_
        refine T.pv (PV.move rfl) Wanted.none rfl rfl ?_
        refine T.opsNil ?_
        exact T.next (j + 1) (by omega) (by omega) (by repeat (first | exact trivial | refine And.intro rfl ?_)) (by repeat (first | exact List.Sublist.slnil | exact List.nil_sublist _ | exact List.Sublist.refl _ | exact List.sublist_append_left _ [] | apply List.Sublist.cons_cons | apply List.Sublist.cons | refine List.Sublist.append_left ?_ _ | refine List.sublist_append_of_sublist_right ?_)) rfl
    rw [List.take_of_length_le (by omega), halli]
    refine T.seq ?_
    refine T.region ?_
    refine T.pv (PV.lss rfl rfl) Wanted.none rfl rfl ?_
    refine T.opsNil ?_
    refine T.seq ?_
    refine T.condF rfl (decide_eq_false (by omega)) ?_
    refine T.exit rfl ?_
    refine T.seq ?_
    refine T.seq ?_
    refine T.region ?_
    refine T.pv (PV.move rfl) Wanted.none rfl rfl ?_
    refine T.pv (PV.lenSl rfl) Wanted.none rfl rfl ?_
    refine T.pv (PV.move rfl) Wanted.none rfl rfl ?_
    refine T.opsNil ?_
    refine T.block ?_
    refine T.loop (γ := Nat) (fun j => j ≤ q.length)
      (fun j => [(106, .int .i64 (j : Int)), (105, .int .i64 (q.length : Int)), (104, .slice adq q.length capq), (19, .bool true), (20, .bool ((q.take j).any po)), (18, .pointer (some ⟨b18, 0, none⟩)), (82, .int .i64 (i : Int)), (81, .int .i64 (x.length : Int)), (80, .slice (some ⟨b, off, none⟩) x.length capx), (8, .slice adp p.length capp), (9, .slice adq q.length capq)])
      (fun _ => [(b18, .cells #[.int .i64 m.b, .int .i64 m.e] 40 (0, 0))]) (fun _ => H5) (fun j => q.length - j) 0 (by omega) (by repeat (first | exact trivial | refine And.intro rfl ?_)) (by repeat (first | exact List.Sublist.slnil | exact List.nil_sublist _ | exact List.Sublist.refl _ | exact List.sublist_append_left _ [] | apply List.Sublist.cons_cons | apply List.Sublist.cons | refine List.Sublist.append_left ?_ _ | refine List.sublist_append_of_sublist_right ?_)) rfl ?_
    intro j' hj'
    by_cases hj3 : j' < q.length
    · obtain ⟨t, ht⟩ : ∃ y, q[j']? = some y := ⟨_, List.getElem?_eq_getElem hj3⟩
      obtain ⟨bp, offp, rfl, hsubp⟩ := h5.span ht
      have htk := any_take (p := po) ht
      cases hq : (q.take j').any po with
      | true =>
        rw [hq, Bool.true_or] at htk
        refine T.seq ?_
        refine T.region ?_
        refine T.pv (PV.lss rfl rfl) Wanted.none rfl rfl ?_
        refine T.opsNil ?_
        refine T.seq ?_
        refine T.condT rfl (decide_eq_true (by omega)) ?_
        refine T.skip ?_
        refine T.seq ?_
        refine T.block ?_
        refine T.seq ?_
        refine T.region ?_
        refine T.pv (PV.indexAddr rfl rfl (by omega)) Wanted.none rfl rfl ?_
        refine T.pv (PV.loadSubAll rfl (by assumption) (by exact rfl)) Wanted.none rfl rfl ?_
        (refine T.alloc Wanted.none rfl ?_; intro b24)
        refine T.storeA Wanted.none rfl rfl (by repeat (first | exact trivial | refine And.intro rfl ?_)) (by exact rfl) (by repeat (first | exact Upd.head | apply Upd.tail | apply Upd.app)) (by repeat (first | exact Splice.nil | apply Splice.cons | apply Splice.skip)) ?_
        refine T.opsNil ?_
        refine T.region ?_
        refine T.pv (PV.move rfl) Wanted.none rfl rfl ?_
        refine T.pv (PV.move rfl) Wanted.none rfl rfl ?_
        refine T.pass (Unwanted.guard rfl rfl rfl) rfl rfl ?_
        refine T.pass (Unwanted.guard rfl rfl rfl) rfl rfl ?_
        refine T.pass (Unwanted.guard rfl rfl rfl) rfl rfl ?_
        refine T.pv (PV.pickT rfl rfl rfl) Wanted.none rfl rfl ?_
        refine T.pv (PV.assign rfl) Wanted.none rfl rfl ?_
        refine T.opsNil ?_
        refine T.blkEnd ?_
        refine T.region ?_
        refine T.pv (PV.add rfl rfl (by omega)) Wanted.none rfl rfl ?_
        refine T.pv (PV.move rfl) Wanted.none rfl rfl ?_
        refine T.opsNil ?_
        rw [← htk]
        exact T.next (j' + 1) (by omega) (by omega) (by repeat (first | exact trivial | refine And.intro rfl ?_)) (by repeat (first | exact List.Sublist.slnil | exact List.nil_sublist _ | exact List.Sublist.refl _ | exact List.sublist_append_left _ [] | apply List.Sublist.cons_cons | apply List.Sublist.cons | refine List.Sublist.append_left ?_ _ | refine List.sublist_append_of_sublist_right ?_)) rfl
      | false =>
        rw [hq, Bool.false_or] at htk
        have hc := contains_fn t (m.b, m.e) H5
        have hce : decide (t.1 ≤ (m.b, m.e).1 ∧ (m.b, m.e).2 ≤ t.2) = po t := by rw [hpo]
        rw [hce, ← htk] at hc
        unfold spV at hc
        refine T.seq ?_
        refine T.region ?_
        refine T.pv (PV.lss rfl rfl) Wanted.none rfl rfl ?_
        refine T.opsNil ?_
        refine T.seq ?_
        refine T.condT rfl (decide_eq_true (by omega)) ?_
        refine T.skip ?_
        refine T.seq ?_
        refine T.block ?_
        refine T.seq ?_
        refine T.region ?_
        refine T.pv (PV.indexAddr rfl rfl (by omega)) Wanted.none rfl rfl ?_
        refine T.pv (PV.loadSubAll rfl (by assumption) (by exact rfl)) Wanted.none rfl rfl ?_
        (refine T.alloc Wanted.none rfl ?_; intro b24)
        refine T.storeA Wanted.none rfl rfl (by repeat (first | exact trivial | refine And.intro rfl ?_)) (by exact rfl) (by repeat (first | exact Upd.head | apply Upd.tail | apply Upd.app)) (by repeat (first | exact Splice.nil | apply Splice.cons | apply Splice.skip)) ?_
        refine T.opsNil ?_
        refine T.region ?_
        refine T.pv (PV.move rfl) Wanted.none rfl rfl ?_
        refine T.pv (PV.move rfl) Wanted.none rfl rfl ?_
        refine T.pv (PV.loadAll rfl (by first | exact .fro (by assumption) | exact .own (by repeat (first | exact List.Mem.head _ | apply List.Mem.tail | apply List.mem_append_right))) (by exact rfl)) (Wanted.guard rfl rfl rfl) rfl rfl ?_
        refine T.pv (PV.loadAll rfl (by first | exact .fro (by assumption) | exact .own (by repeat (first | exact List.Mem.head _ | apply List.Mem.tail | apply List.mem_append_right))) (by exact rfl)) (Wanted.guard rfl rfl rfl) rfl rfl ?_
        refine T.callV (Wanted.guard rfl rfl rfl) rfl rfl (hc) ?_
        refine T.pv (PV.pickF rfl rfl rfl) Wanted.none rfl rfl ?_
        refine T.pv (PV.assign rfl) Wanted.none rfl rfl ?_
        refine T.opsNil ?_
        refine T.blkEnd ?_
        refine T.region ?_
        refine T.pv (PV.add rfl rfl (by omega)) Wanted.none rfl rfl ?_
        refine T.pv (PV.move rfl) Wanted.none rfl rfl ?_
        refine T.opsNil ?_
        exact T.next (j' + 1) (by omega) (by omega) (by repeat (first | exact trivial | refine And.intro rfl ?_)) (by repeat (first | exact List.Sublist.slnil | exact List.nil_sublist _ | exact List.Sublist.refl _ | exact List.sublist_append_left _ [] | apply List.Sublist.cons_cons | apply List.Sublist.cons | refine List.Sublist.append_left ?_ _ | refine List.sublist_append_of_sublist_right ?_)) rfl
    rw [List.take_of_length_le (by omega), hallo]
    refine T.seq ?_
    refine T.region ?_
    refine T.pv (PV.lss rfl rfl) Wanted.none rfl rfl ?_
    refine T.opsNil ?_
    refine T.seq ?_
    refine T.condF rfl (decide_eq_false (by omega)) ?_
    refine T.exit rfl ?_
    refine T.seq ?_
    refine T.region ?_
    refine T.pv (PV.move rfl) Wanted.none rfl rfl ?_
    refine T.pv (PV.not rfl) Wanted.none rfl rfl ?_
    refine T.pv (PV.move rfl) Wanted.none rfl rfl ?_
    refine T.pv (PV.move rfl) (Wanted.guard rfl rfl rfl) rfl rfl ?_
    refine T.pv (PV.not rfl) (Wanted.guard rfl rfl rfl) rfl rfl ?_
    refine T.pv (PV.pickF rfl rfl rfl) Wanted.none rfl rfl ?_
    refine T.opsNil ?_
    refine T.condF rfl rfl ?_
    refine T.skip ?_
    refine T.blkEnd ?_
    refine T.region ?_
    refine T.pv (PV.add rfl rfl (by omega)) Wanted.none rfl rfl ?_
    refine T.pv (PV.move rfl) Wanted.none rfl rfl ?_
    refine T.opsNil ?_
    exact T.next (i + 1) (by omega) (by omega) (by repeat (first | exact trivial | refine And.intro rfl ?_)) (by repeat (first | exact List.Sublist.slnil | exact List.nil_sublist _ | exact List.Sublist.refl _ | exact List.sublist_append_left _ [] | apply List.Sublist.cons_cons | apply List.Sublist.cons | refine List.Sublist.append_left ?_ _ | refine List.sublist_append_of_sublist_right ?_)) rfl
  · refine T.seq ?_
    refine T.region ?_
    refine T.pv (PV.lss rfl rfl) Wanted.none rfl rfl ?_
    refine T.opsNil ?_
    refine T.seq ?_
    refine T.condF rfl (decide_eq_false (by omega)) ?_
    refine T.exit rfl ?_
    refine T.seq ?_
    refine T.region ?_
    refine T.callV Wanted.none rfl rfl (known_fn _) ?_
    refine T.pv (PV.assign rfl) Wanted.none rfl rfl ?_
    refine T.opsNil ?_
    exact T.retF (Lv.fin (RV.tmp rfl rfl) rfl)
end Go.Proofs.Ytceaicameojcaaa
