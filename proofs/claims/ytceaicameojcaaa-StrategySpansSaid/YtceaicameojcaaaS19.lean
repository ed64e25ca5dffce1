/- strategy: the law Spans. -/
import Derived.Test.YtceaicameojcaaaS18
namespace Go.Proofs.Ytceaicameojcaaa
open Go.RowKit

theorem filter_at {α : Type} {l : List α} {p : α → Bool} {i : Nat} {x : α} (hx : l[i]? = some x) (hp : p x = true) : (l.filter p)[((l.take i).filter p).length]? = some x := by
  have h1 := List.getElem?_eq_some_iff.1 hx
  have h2 : l = l.take i ++ x :: l.drop (i + 1) := by
    rw [← h1.2, ← List.drop_eq_getElem_cons h1.1, List.take_append_drop]
  have h3 : l.filter p = (l.take i).filter p ++ x :: (l.drop (i + 1)).filter p := by
    conv => lhs; rw [h2, List.filter_append, List.filter_cons_of_pos hp]
  rw [h3, List.getElem?_append_right (Nat.le_refl _), Nat.sub_self]; rfl
theorem filter_len_snoc {α : Type} {l : List α} {p : α → Bool} {i : Nat} {x : α} (hx : l[i]? = some x) : ((l.take (i + 1)).filter p).length = ((l.take i).filter p).length + (if p x = true then 1 else 0) := by
  rw [List.take_add_one, hx, Option.toList_some, List.filter_append, List.length_append]
  by_cases h : p x = true
  · rw [if_pos h]; simp [h]
  · rw [if_neg h]; simp [h]
structure SG where
  j : Nat
  es : Array MapEntry
  clock : Nat
  ks : List Sp
theorem key_spm {l : List Mt} {m : Mt} {i : Nat} {m' : List Mt} (h : l.map keyM = m'.map keyM) (hi : m'[i]? = some m) : ∃ n, l[i]? = some n ∧ keyM n = keyM m := by
  have := congrArg (fun t => t[i]?) h
  simp only [List.getElem?_map, hi, Option.map_some] at this
  cases hn : l[i]? with
  | none => rw [hn] at this; cases this
  | some n => rw [hn] at this; exact ⟨n, rfl, by simpa using this⟩
set_option maxHeartbeats 2000000 in
theorem spanslaw_fn (l : List Int) (v : Value) (s : Int) (H : Hp) (hv : InL H v l) (hl : l.length ≤ 9223372036854775807) (hr : ∀ x ∈ l, inI64 x) (hs : inI64 s) : Fn Try.prog 6 #[v, .int .i64 s] H (fun u _ => u = .bool true) := by
  refine Fn.of_T (vs := [v, .int .i64 s]) Try.func6 rfl rfl fun w => ?_
  refine T.seq ?_
  refine T.region ?_
  refine T.pv (PV.assign rfl) Wanted.none rfl rfl ?_
  refine T.opsNil ?_
  refine T.seq ?_
  refine T.region ?_
  refine T.pv (PV.move rfl) Wanted.none rfl rfl ?_
  refine T.call Wanted.none rfl rfl (list_fn l v H hv hl hr) ?_
  rintro u1 H1 hle1 ⟨x, L, hx, hg⟩
  have hxl : x.length ≤ 13 := hg.2.1
  refine T.pv (PV.assign rfl) Wanted.none rfl rfl ?_
  refine T.opsNil ?_
  refine T.seq ?_
  refine T.region ?_
  refine T.pv (PV.move rfl) Wanted.none rfl rfl ?_
  refine T.callV Wanted.none rfl rfl (mod_fn s 4 H1 hs (by omega)) ?_
  have hk : 0 ≤ s % 4 ∧ s % 4 ≤ 3 := by omega
  generalize s % 4 = k at hk ⊢
  have hgood := hg.good hk
  refine T.pv (PV.move rfl) Wanted.none rfl rfl ?_
  refine T.call Wanted.none rfl rfl (choose_fn k x u1 H1 hx (by omega)) ?_
  intro u2 H2 hle2 h2
  obtain ⟨v2, a, rfl, h2, k2⟩ := choose_ok hgood h2
  have l2 : a.length ≤ 13 := by rw [map_len k2]; exact Nat.le_trans (choose_sub k x).length_le hxl
  have hback := choose_back k x
  rw [← map_spm k2] at hback
  replace hx := hx.mono hle2
  obtain ⟨ada, capa, rfl⟩ := h2.1.len
  obtain ⟨adx, capx, rfl⟩ := hx.1.len
  refine T.pv (PV.move rfl) Wanted.none rfl rfl ?_
  refine T.pv (PV.extract rfl rfl) Wanted.none rfl rfl ?_
  refine T.pv (PV.extract rfl rfl) Wanted.none rfl rfl ?_
  refine T.pv (PV.assign rfl) Wanted.none rfl rfl ?_
  refine T.pv (PV.assign rfl) Wanted.none rfl rfl ?_
  refine T.opsNil ?_
  refine T.seq ?_
  refine T.seq ?_
  refine T.region ?_
  refine T.pv (PV.move rfl) Wanted.none rfl rfl ?_
  refine T.pv (PV.neq rfl rfl) Wanted.none rfl rfl ?_
  refine T.opsNil ?_
  refine T.condF rfl rfl ?_
  refine T.skip ?_
  refine T.seq ?_
  refine T.region ?_
  refine T.makeMap Wanted.none rfl ?_
  intro b8
  refine T.pv (PV.assign rfl) Wanted.none rfl rfl ?_
  refine T.opsNil ?_
  refine T.seq ?_
  refine T.seq ?_
  refine T.region ?_
  refine T.pv (PV.move rfl) Wanted.none rfl rfl ?_
  refine T.pv (PV.lenSl rfl) Wanted.none rfl rfl ?_
  refine T.pv (PV.move rfl) Wanted.none rfl rfl ?_
  refine T.opsNil ?_
  refine T.block ?_
  refine T.loop (γ := SG) (fun g => g.j ≤ a.length ∧ SetS g.es.toList g.ks ∧ ∀ s, s ∈ g.ks ↔ s ∈ (a.take g.j).map spm)
    (fun g => [(28, .int .i64 (g.j : Int)), (27, .int .i64 (a.length : Int)), (26, .slice ada a.length capa), (8, .map (some b8)), (6, .slice ada a.length capa), (5, .slice adx x.length capx)])
    (fun g => [(b8, .map g.es g.clock)]) (fun _ => H2) (fun g => a.length - g.j) ⟨0, #[], 0, []⟩ ⟨by simp, rfl, by simp⟩ (by repeat (first | exact trivial | refine And.intro rfl ?_)) (by repeat (first | exact List.Sublist.slnil | exact List.nil_sublist _ | exact List.Sublist.refl _ | exact List.sublist_append_left _ [] | apply List.Sublist.cons_cons | apply List.Sublist.cons | refine List.Sublist.append_left ?_ _ | refine List.sublist_append_of_sublist_right ?_)) rfl ?_
  rintro ⟨j, es, clock, ks⟩ ⟨j1, j2, j3⟩
  dsimp only at j1 j2 j3 ⊢
  by_cases hj : j < a.length
  · obtain ⟨m, hm⟩ : ∃ y, a[j]? = some y := ⟨_, List.getElem?_eq_getElem hj⟩
    obtain ⟨b, off, rfl, hsub⟩ := h2.1.matchAt hm
    obtain ⟨am, cm, hmv⟩ := (h2.2 m (List.mem_of_getElem? hm)).1.len
    rw [hmv] at hsub
    refine T.seq ?_
    refine T.region ?_
    refine T.pv (PV.lss rfl rfl) Wanted.none rfl rfl ?_
    refine T.opsNil ?_
    refine T.seq ?_
    refine T.condT rfl (decide_eq_true (by omega)) ?_
    refine T.skip ?_
    refine T.seq ?_
    refine T.block ?_
    refine T.seq ?_
    refine T.region ?_
    refine T.pv (PV.indexAddr rfl rfl (by omega)) Wanted.none rfl rfl ?_
    refine T.pv (PV.loadSubAll rfl (by assumption) (by exact rfl)) Wanted.none rfl rfl ?_
    (refine T.alloc Wanted.none rfl ?_; intro b10)
    refine T.storeA Wanted.none rfl rfl (by repeat (first | exact trivial | refine And.intro rfl ?_)) (by exact rfl) (by repeat (first | exact Upd.head | apply Upd.tail | apply Upd.app)) (by repeat (first | exact Splice.nil | apply Splice.cons | apply Splice.skip)) ?_
    refine T.opsNil ?_
    refine T.region ?_
    refine T.pv (PV.move rfl) Wanted.none rfl rfl ?_
    refine T.pv (PV.fieldAddr rfl) Wanted.none rfl rfl ?_
    refine T.pv (PV.load1 rfl (by first | exact .fro (by assumption) | exact .own (by repeat (first | exact List.Mem.head _ | apply List.Mem.tail | apply List.mem_append_right))) rfl) Wanted.none rfl rfl ?_
    refine T.pv (PV.fieldAddr rfl) Wanted.none rfl rfl ?_
    refine T.pv (PV.load1 rfl (by first | exact .fro (by assumption) | exact .own (by repeat (first | exact List.Mem.head _ | apply List.Mem.tail | apply List.mem_append_right))) rfl) Wanted.none rfl rfl ?_
    refine T.pv (PV.build rfl (by repeat (first | exact FillR.nil | (apply FillR.cons rfl; (first | exact CellsR.one rfl | exact CellsR.agg); rfl; repeat (first | exact Splice.nil | apply Splice.cons | apply Splice.skip))))) Wanted.none rfl rfl ?_
    refine T.mapSet (s := spm m) Try.underlying36 Wanted.none rfl rfl rfl j2 [_] rfl ?_
    intro es' clock' hset
    refine T.opsNil ?_
    refine T.blkEnd ?_
    refine T.region ?_
    refine T.pv (PV.add rfl rfl (by omega)) Wanted.none rfl rfl ?_
    refine T.pv (PV.move rfl) Wanted.none rfl rfl ?_
    refine T.opsNil ?_
    refine T.next ⟨j + 1, es', clock', if spm m ∈ ks then ks else ks ++ [spm m]⟩ ⟨by dsimp only; omega, hset, fun s => ?_⟩ (by dsimp only; omega) (by repeat (first | exact trivial | refine And.intro rfl ?_)) (by repeat (first | exact List.Sublist.slnil | exact List.nil_sublist _ | exact List.Sublist.refl _ | exact List.sublist_append_left _ [] | apply List.Sublist.cons_cons | apply List.Sublist.cons | refine List.Sublist.append_left ?_ _ | refine List.sublist_append_of_sublist_right ?_)) rfl
    dsimp only
    rw [List.take_add_one, hm, Option.toList_some, List.map_append, List.mem_append, ← j3 s]
    by_cases hin : spm m ∈ ks
    · rw [if_pos hin]
      constructor
      · exact .inl
      · rintro (h | h)
        · exact h
        · simp at h; subst h; exact hin
    · rw [if_neg hin, List.mem_append]; simp
  rw [List.take_of_length_le (by omega)] at j3
  obtain ⟨p, hp⟩ : ∃ p : Mt → Bool, p = fun m => decide (spm m ∈ a.map spm) := ⟨_, rfl⟩
  rw [← hp] at hback
  have hcnt : ∀ i, ((x.take i).filter p).length ≤ a.length := by
    intro i
    rw [map_len k2, ← hback]
    exact ((List.take_sublist i x).filter p).length_le
  refine T.seq ?_
  refine T.region ?_
  refine T.pv (PV.lss rfl rfl) Wanted.none rfl rfl ?_
  refine T.opsNil ?_
  refine T.seq ?_
  refine T.condF rfl (decide_eq_false (by omega)) ?_
  refine T.exit rfl ?_
  refine T.seq ?_
  refine T.region ?_
  refine T.pv (PV.assign rfl) Wanted.none rfl rfl ?_
  refine T.opsNil ?_
  refine T.seq ?_
  refine T.seq ?_
  refine T.region ?_
  refine T.pv (PV.move rfl) Wanted.none rfl rfl ?_
  refine T.pv (PV.lenSl rfl) Wanted.none rfl rfl ?_
  refine T.pv (PV.move rfl) Wanted.none rfl rfl ?_
  refine T.opsNil ?_
  refine T.block ?_
  refine T.loop (γ := Nat) (fun i => i ≤ x.length)
    (fun i => [(41, .int .i64 (i : Int)), (40, .int .i64 (x.length : Int)), (39, .slice adx x.length capx), (11, .int .i64 (((x.take i).filter p).length : Int)), (8, .map (some b8)), (6, .slice ada a.length capa), (5, .slice adx x.length capx)])
    (fun _ => [(b8, .map es clock)]) (fun _ => H2) (fun i => x.length - i) 0 (by simp) (by repeat (first | exact trivial | refine And.intro rfl ?_)) (by repeat (first | exact List.Sublist.slnil | exact List.nil_sublist _ | exact List.Sublist.refl _ | exact List.sublist_append_left _ [] | apply List.Sublist.cons_cons | apply List.Sublist.cons | refine List.Sublist.append_left ?_ _ | refine List.sublist_append_of_sublist_right ?_)) rfl ?_
  intro i hi
  by_cases hi2 : i < x.length
  · obtain ⟨m, hm⟩ : ∃ y, x[i]? = some y := ⟨_, List.getElem?_eq_getElem hi2⟩
    obtain ⟨b, off, rfl, hsub⟩ := hx.1.matchAt hm
    have hlabm := hx.2 m (List.mem_of_getElem? hm)
    obtain ⟨am, cm, hmv⟩ := hlabm.1.len
    rw [hmv] at hsub
    have hsn := filter_len_snoc (p := p) hm
    refine T.seq ?_
    refine T.region ?_
    refine T.pv (PV.lss rfl rfl) Wanted.none rfl rfl ?_
    refine T.opsNil ?_
    refine T.seq ?_
    refine T.condT rfl (decide_eq_true (by omega)) ?_
    refine T.skip ?_
    refine T.seq ?_
    refine T.block ?_
    refine T.seq ?_
    refine T.region ?_
    refine T.pv (PV.indexAddr rfl rfl (by omega)) Wanted.none rfl rfl ?_
    refine T.pv (PV.loadSubAll rfl (by assumption) (by exact rfl)) Wanted.none rfl rfl ?_
    (refine T.alloc Wanted.none rfl ?_; intro b13)
    refine T.storeA Wanted.none rfl rfl (by repeat (first | exact trivial | refine And.intro rfl ?_)) (by exact rfl) (by repeat (first | exact Upd.head | apply Upd.tail | apply Upd.app)) (by repeat (first | exact Splice.nil | apply Splice.cons | apply Splice.skip)) ?_
    refine T.opsNil ?_
    refine T.seq ?_
    refine T.region ?_
    refine T.pv (PV.move rfl) Wanted.none rfl rfl ?_
    refine T.pv (PV.fieldAddr rfl) Wanted.none rfl rfl ?_
    refine T.pv (PV.load1 rfl (by first | exact .fro (by assumption) | exact .own (by repeat (first | exact List.Mem.head _ | apply List.Mem.tail | apply List.mem_append_right))) rfl) Wanted.none rfl rfl ?_
    refine T.pv (PV.fieldAddr rfl) Wanted.none rfl rfl ?_
    refine T.pv (PV.load1 rfl (by first | exact .fro (by assumption) | exact .own (by repeat (first | exact List.Mem.head _ | apply List.Mem.tail | apply List.mem_append_right))) rfl) Wanted.none rfl rfl ?_
    refine T.pv (PV.build rfl (by repeat (first | exact FillR.nil | (apply FillR.cons rfl; (first | exact CellsR.one rfl | exact CellsR.agg); rfl; repeat (first | exact Splice.nil | apply Splice.cons | apply Splice.skip))))) Wanted.none rfl rfl ?_
    refine T.pv (PV.mapHas (s := spm m) Try.underlying36 (fun _ => by kernel_rfl) rfl rfl j2 (by repeat (first | exact List.Mem.head _ | apply List.Mem.tail | apply List.mem_append_right))) Wanted.none rfl rfl ?_
    by_cases hin : p m = true
    · have hks : spm m ∈ ks := by rw [j3]; rw [hp] at hin; simpa using hin
      rw [decide_eq_true hks]
      rw [if_pos hin] at hsn
      have hat := filter_at hm hin
      rw [hback] at hat
      obtain ⟨n, hn, hkn⟩ := key_spm k2 hat
      have hnl := (List.getElem?_eq_some_iff.1 hn).1
      obtain ⟨b2, off2, rfl, hsub2⟩ := h2.1.matchAt hn
      have hcall := matchCompare_fn n m H2 (h2.2 n (List.mem_of_getElem? hn)) hlabm
      rw [(cmpL_eq _ _).2 hkn] at hcall
      unfold mtV at hcall
      rw [hmv] at hcall
      generalize ((x.take i).filter p).length = kk at *
      refine T.opsNil ?_
      refine T.condT rfl rfl ?_
      refine T.seq ?_
      refine T.seq ?_
      refine T.regionQ (by kernel_rfl) ?_
      refine TQ.pv (PV.move rfl) Wanted.none rfl rfl ?_
      refine TQ.pv (PV.move rfl) Wanted.none rfl rfl ?_
      refine TQ.pv (PV.lenSl rfl) Wanted.none rfl rfl ?_
      refine TQ.pv (PV.geq rfl rfl) Wanted.none rfl rfl ?_
      refine TQ.pv (PV.move rfl) Wanted.none rfl rfl ?_
      refine TQ.setF (d := 56) rfl (by omega) ?_
      refine TQ.pv (PV.move rfl) (Wanted.guard rfl rfl rfl) rfl rfl ?_
      refine TQ.pv (PV.move rfl) (Wanted.guard rfl rfl rfl) rfl rfl ?_
      refine TQ.pv (PV.indexAddr rfl rfl (by omega)) (Wanted.guard rfl rfl rfl) rfl rfl ?_
      refine TQ.pv (PV.loadSubAll rfl (by assumption) (by exact rfl)) (Wanted.guard rfl rfl rfl) rfl rfl ?_
      refine TQ.pv (PV.loadAll rfl (by first | exact .fro (by assumption) | exact .own (by repeat (first | exact List.Mem.head _ | apply List.Mem.tail | apply List.mem_append_right))) (by exact rfl)) (Wanted.guard rfl rfl rfl) rfl rfl ?_
      refine TQ.callV (Wanted.guard rfl rfl rfl) rfl rfl (hcall) ?_
      refine TQ.pv (PV.neq rfl rfl) (Wanted.guard rfl rfl rfl) rfl rfl ?_
      refine TQ.pv (PV.pickF rfl rfl rfl) Wanted.none rfl rfl ?_
      refine TQ.nil ?_
      refine T.condF rfl rfl ?_
      refine T.skip ?_
      refine T.region ?_
      refine T.pv (PV.move rfl) Wanted.none rfl rfl ?_
      refine T.pv (PV.add rfl rfl (by omega)) Wanted.none rfl rfl ?_
      refine T.pv (PV.assign rfl) Wanted.none rfl rfl ?_
      refine T.opsNil ?_
      refine T.blkEnd ?_
      refine T.region ?_
      refine T.pv (PV.add rfl rfl (by omega)) Wanted.none rfl rfl ?_
      refine T.pv (PV.move rfl) Wanted.none rfl rfl ?_
      refine T.opsNil ?_
      rw [show (kk : Int) + 1 = ((kk + 1 : Nat) : Int) by omega, ← hsn]
      exact T.next (i + 1) (by omega) (by omega) (by repeat (first | exact trivial | refine And.intro rfl ?_)) (by repeat (first | exact List.Sublist.slnil | exact List.nil_sublist _ | exact List.Sublist.refl _ | exact List.sublist_append_left _ [] | apply List.Sublist.cons_cons | apply List.Sublist.cons | refine List.Sublist.append_left ?_ _ | refine List.sublist_append_of_sublist_right ?_)) rfl
    · have hks : spm m ∉ ks := by rw [j3]; rw [hp] at hin; simpa using hin
      rw [decide_eq_false hks]
      have hsn2 : ((x.take (i + 1)).filter p).length = ((x.take i).filter p).length := by rw [hsn, if_neg hin]; rfl
      rw [← hsn2]
      refine T.opsNil ?_
      refine T.condF rfl rfl ?_
      refine T.skip ?_
      refine T.blkEnd ?_
      refine T.region ?_
      refine T.pv (PV.add rfl rfl (by omega)) Wanted.none rfl rfl ?_
      refine T.pv (PV.move rfl) Wanted.none rfl rfl ?_
      refine T.opsNil ?_
      exact T.next (i + 1) (by omega) (by omega) (by repeat (first | exact trivial | refine And.intro rfl ?_)) (by repeat (first | exact List.Sublist.slnil | exact List.nil_sublist _ | exact List.Sublist.refl _ | exact List.sublist_append_left _ [] | apply List.Sublist.cons_cons | apply List.Sublist.cons | refine List.Sublist.append_left ?_ _ | refine List.sublist_append_of_sublist_right ?_)) rfl
  · have hfin : ((x.take i).filter p).length = a.length := by rw [List.take_of_length_le (by omega), hback, map_len k2]
    rw [hfin]
    have hd : decide ((a.length : Int) = a.length) = true := decide_eq_true rfl
    refine T.seq ?_
    refine T.region ?_
    refine T.pv (PV.lss rfl rfl) Wanted.none rfl rfl ?_
    refine T.opsNil ?_
    refine T.seq ?_
    refine T.condF rfl (decide_eq_false (by omega)) ?_
    refine T.exit rfl ?_
    refine T.seq ?_
    refine T.region ?_
    refine T.pv (PV.move rfl) Wanted.none rfl rfl ?_
    refine T.pv (PV.move rfl) Wanted.none rfl rfl ?_
    refine T.pv (PV.lenSl rfl) Wanted.none rfl rfl ?_
    refine T.pv (PV.eql rfl rfl) Wanted.none rfl rfl ?_
    refine T.pv (PV.move rfl) Wanted.none rfl rfl ?_
    refine T.setT (d := 72) rfl (by omega) ?_
    refine T.callV (by first | exact Wanted.guard rfl rfl rfl | exact Wanted.guard rfl rfl (by assumption)) rfl rfl (known_fn _) ?_
    refine T.pv (PV.pickT rfl rfl rfl) Wanted.none rfl rfl ?_
    refine T.pv (PV.assign rfl) Wanted.none rfl rfl ?_
    refine T.opsNil ?_
    exact T.retF (Lv.fin (RV.tmp rfl rfl) rfl)
end Go.Proofs.Ytceaicameojcaaa
