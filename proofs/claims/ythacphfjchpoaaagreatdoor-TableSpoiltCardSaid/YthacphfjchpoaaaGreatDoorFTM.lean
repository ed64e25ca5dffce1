/- table: Total, Margin: the program. -/
import Derived.Test.YthacphfjchpoaaaGreatDoorGI
namespace Go.Proofs.YthacphfjchpoaaaGreatDoor
open Go.RowKit

theorem rowsK_mem {L : List Rw} {Q : RK → Prop} (h : ∀ r ∈ L, Q (rwK r)) : ∀ x ∈ L.map rwK, Q x := by
  rintro x hx
  obtain ⟨z, hz, rfl⟩ := List.mem_map.1 hx
  exact h z hz
set_option maxHeartbeats 1000000 in
theorem total_in (L : List Rw) (v : Value) (H : Hp) (hT : PowT H) (hL : RwL H v L) (hLl : L.length ≤ 1000) (hn : ∀ r ∈ L, r.n ≤ 1099511627776) :
    Fn Tryz.prog 24 #[v] H (fun u _ => u = .int .i64 (totalR (L.map rwK))) := by
  have hva := valid_in L v H hT hL hLl
  obtain ⟨am, cm, rfl⟩ := hL.1.len
  refine Fn.of_T (vs := [.slice am L.length cm]) Tryz.func24 rfl rfl fun w => ?_
  cases hv : validR (L.map rwK)
  · rw [hv] at hva
    refine yq25 ?_; refine yq14 ?_; refine T.callV Wanted.none rfl rfl (hva) ?_; refine sv (PV.not rfl) ?_; refine yq36 ?_; refine yq25 ?_
    exact T.retF (Lv.fin (RV.tmp rfl rfl) (by unfold totalR; rw [hv]; rfl))
  · rw [hv] at hva
    have hpos : ∀ r ∈ L, 1 ≤ r.n := fun r hr => (validR_mem hv (List.mem_map_of_mem hr)).2.2.2
    obtain ⟨F, hF⟩ : ∃ F, F = L.map rwK := ⟨_, rfl⟩
    have hFl : F.length = L.length := by rw [hF, List.length_map]
    have hFb : ∀ x ∈ F, 0 ≤ x.2 ∧ x.2 ≤ 1099511627776 := by
      rw [hF]; exact rowsK_mem (Q := fun x => 0 ≤ x.2 ∧ x.2 ≤ 1099511627776) fun r hr => ⟨by have := hpos r hr; show 0 ≤ r.n; omega, hn r hr⟩
    rw [← hF]
    refine yq25 ?_; refine yq14 ?_; refine T.callV Wanted.none rfl rfl (hva) ?_; refine sv (PV.not rfl) ?_; refine yq92 ?_; refine yq25 ?_; refine yq112 ?_; refine T.loopK [(10, Value.int IntKind.i64 (↑L.length : Int)), (9, Value.slice am L.length cm)] zq8 (γ := Nat) (fun i => i ≤ L.length) (fun i => [(11, .int .i64 (i : Int)), (3, .int .i64 (cntR (F.take i)))]) (fun _ => []) (fun _ => H) (fun i => L.length - i) 0 (Nat.zero_le _) zq8 (by repeat (first | exact Sel.refl _ | exact Sel.nil | (refine Sel.cons zq1 ?_) | (refine Sel.app zq1 ?_) | exact Sel.one zq1)) rfl ?_
    intro i g1
    by_cases hi : i < L.length
    · obtain ⟨bx, off, r, rfl, hix, hsub⟩ := RowL.get encRw_len hL.1 hi
      have hrok := hL.2 r (List.mem_of_getElem? hix)
      obtain ⟨ar, cr, hrv⟩ := hrok.1.len
      unfold encRw at hsub
      rw [hrv] at hsub
      have hFi : F[i]? = some (rwK r) := by rw [hF, List.getElem?_map, hix]; rfl
      have hst : cntR (F.take (i + 1)) = cntR (F.take i) + r.n := by
        rw [List.take_add_one, hFi]; exact cntR_snoc _ _
      have hb := cntR_bound (m := 1099511627776) (by omega) (fun x hx => hFb x (List.mem_of_mem_take hx) : ∀ x ∈ F.take i, 0 ≤ x.2 ∧ x.2 ≤ 1099511627776)
      have hlen : (F.take i).length ≤ 1000 := by rw [List.length_take]; omega
      have hrn := hn r (List.mem_of_getElem? hix)
      have hrp := hpos r (List.mem_of_getElem? hix)
      refine yq110 ?_; refine sy fun b5 => ?_; refine T.storeA Wanted.none rfl rfl zq8 (by exact rfl) zq14 zq13 ?_; refine zs2 ?_; refine sm ?_; refine yq5 ?_; refine yq63 ?_; refine yq61 ?_
      rw [← hst]
      exact T.nextP (i + 1) (by omega) (by omega) zq8 (by repeat (first | exact Sel.refl _ | exact Sel.nil | (refine Sel.cons zq1 ?_) | (refine Sel.app zq1 ?_) | exact Sel.one zq1)) rfl
    · rw [List.take_of_length_le (by omega)]
      refine yq74 ?_; refine yq140 ?_
      exact T.retF (Lv.fin (RV.tmp rfl rfl) (by unfold totalR; rw [hF, hv]; rfl))
set_option maxHeartbeats 1000000 in
theorem total_ref (L : List Rw) (v : Value) (H : Hp) (hL : RwL H v L) (hLl : L.length ≤ 1000) (hn : ∀ r ∈ L, r.n ≤ 1099511627776) :
    Fn Tryz.prog 25 #[v] H (fun u _ => u = .int .i64 (totalR (L.map rwK))) := by
  have hva := valid_ref L v H hL hLl
  obtain ⟨am, cm, rfl⟩ := hL.1.len
  refine Fn.of_T (vs := [.slice am L.length cm]) Tryz.func25 rfl rfl fun w => ?_
  cases hv : validR (L.map rwK)
  · rw [hv] at hva
    refine yq25 ?_; refine yq14 ?_; refine T.callV Wanted.none rfl rfl (hva) ?_; refine sv (PV.not rfl) ?_; refine yq36 ?_; refine yq25 ?_
    exact T.retF (Lv.fin (RV.tmp rfl rfl) (by unfold totalR; rw [hv]; rfl))
  · rw [hv] at hva
    have hpos : ∀ r ∈ L, 1 ≤ r.n := fun r hr => (validR_mem hv (List.mem_map_of_mem hr)).2.2.2
    obtain ⟨F, hF⟩ : ∃ F, F = L.map rwK := ⟨_, rfl⟩
    have hFl : F.length = L.length := by rw [hF, List.length_map]
    have hFb : ∀ x ∈ F, 0 ≤ x.2 ∧ x.2 ≤ 1099511627776 := by
      rw [hF]; exact rowsK_mem (Q := fun x => 0 ≤ x.2 ∧ x.2 ≤ 1099511627776) fun r hr => ⟨by have := hpos r hr; show 0 ≤ r.n; omega, hn r hr⟩
    rw [← hF]
    refine yq25 ?_; refine yq14 ?_; refine T.callV Wanted.none rfl rfl (hva) ?_; refine sv (PV.not rfl) ?_; refine yq92 ?_; refine yq25 ?_; refine yq112 ?_; refine T.loopK [(10, Value.int IntKind.i64 (↑L.length : Int)), (9, Value.slice am L.length cm)] zq8 (γ := Nat) (fun i => i ≤ L.length) (fun i => [(11, .int .i64 (i : Int)), (3, .int .i64 (cntR (F.take i)))]) (fun _ => []) (fun _ => H) (fun i => L.length - i) 0 (Nat.zero_le _) zq8 (by repeat (first | exact Sel.refl _ | exact Sel.nil | (refine Sel.cons zq1 ?_) | (refine Sel.app zq1 ?_) | exact Sel.one zq1)) rfl ?_
    intro i g1
    by_cases hi : i < L.length
    · obtain ⟨bx, off, r, rfl, hix, hsub⟩ := RowL.get encRw_len hL.1 hi
      have hrok := hL.2 r (List.mem_of_getElem? hix)
      obtain ⟨ar, cr, hrv⟩ := hrok.1.len
      unfold encRw at hsub
      rw [hrv] at hsub
      have hFi : F[i]? = some (rwK r) := by rw [hF, List.getElem?_map, hix]; rfl
      have hst : cntR (F.take (i + 1)) = cntR (F.take i) + r.n := by
        rw [List.take_add_one, hFi]; exact cntR_snoc _ _
      have hb := cntR_bound (m := 1099511627776) (by omega) (fun x hx => hFb x (List.mem_of_mem_take hx) : ∀ x ∈ F.take i, 0 ≤ x.2 ∧ x.2 ≤ 1099511627776)
      have hlen : (F.take i).length ≤ 1000 := by rw [List.length_take]; omega
      have hrn := hn r (List.mem_of_getElem? hix)
      have hrp := hpos r (List.mem_of_getElem? hix)
      refine yq110 ?_; refine sy fun b5 => ?_; refine T.storeA Wanted.none rfl rfl zq8 (by exact rfl) zq14 zq13 ?_; refine zs2 ?_; refine sm ?_; refine yq5 ?_; refine yq63 ?_; refine yq61 ?_
      rw [← hst]
      exact T.nextP (i + 1) (by omega) (by omega) zq8 (by repeat (first | exact Sel.refl _ | exact Sel.nil | (refine Sel.cons zq1 ?_) | (refine Sel.app zq1 ?_) | exact Sel.one zq1)) rfl
    · rw [List.take_of_length_le (by omega)]
      refine yq74 ?_; refine yq140 ?_
      exact T.retF (Lv.fin (RV.tmp rfl rfl) (by unfold totalR; rw [hF, hv]; rfl))
theorem marE_ok {l : List RK} {k : Int} (h : marE l k = 0) : validR l = true ∧ 0 ≤ k ∧ (l ≠ [] → k < keysN l) := by
  unfold marE at h
  split at h
  · cases h
  · rename_i hh
    refine ⟨?_, ?_, fun hl => ?_⟩
    · cases hv : validR l
      · exact absurd (.inl hv) hh
      · rfl
    · by_cases hk : k < 0
      · exact absurd (.inr (.inl hk)) hh
      · omega
    · by_cases hk : (keysN l : Int) ≤ k
      · exact absurd (.inr (.inr ⟨hl, hk⟩)) hh
      · omega
theorem joinL_one {ks : List ByteArray} {s : ByteArray} {k : Nat} (h : ks[k]? = some s) : (joinL [s]).length ≤ (joinL ks).length := by
  have e : ks = ks.take k ++ ([s] ++ ks.drop (k + 1)) := by
    have h1 := List.getElem?_eq_some_iff.1 h
    have h2 : ks.drop k = s :: ks.drop (k + 1) := by rw [List.drop_eq_getElem_cons h1.1, h1.2]
    rw [List.singleton_append, ← h2, List.take_append_drop]
  rw [e, joinL_append, joinL_append, List.length_append, List.length_append]
  omega
structure MgG where
  i : Nat
  H : Hp
  v : Value
  lv : List (Nat × Obj)
  R : List Rw
set_option maxHeartbeats 4000000 in
theorem margin_in (L : List Rw) (v : Value) (k : Int) (H : Hp) (hT : PowT H) (hL : RwL H v L) (hLl : L.length ≤ 1000) (hn : ∀ r ∈ L, r.n ≤ 1099511627776) :
    Fn Tryz.prog 26 #[v, .int .i64 k] H (fun u H' => ∃ v' A, u = .tuple #[v', .int .i64 (marE (L.map rwK) k)] ∧ RwL H' v' A ∧ (marE (L.map rwK) k = 0 → A.map rwK = marR (L.map rwK) k.toNat) ∧ (marE (L.map rwK) k ≠ 0 → A = [])) := by
  have hva := valid_in L v H hT hL hLl
  obtain ⟨am, cm, rfl⟩ := hL.1.len
  obtain ⟨F, hF⟩ : ∃ F, F = L.map rwK := ⟨_, rfl⟩
  have hFl : F.length = L.length := by rw [hF, List.length_map]
  rw [← hF] at hva ⊢
  refine Fn.of_T (vs := [.slice am L.length cm, .int .i64 k]) Tryz.func26 rfl rfl fun w => ?_
  have hend : marE F k = 1 → ∃ v' A, (.tuple #[.slice none 0 0, .int .i64 1] : Value) = .tuple #[v', .int .i64 (marE F k)] ∧ RwL H v' A ∧ (marE F k = 0 → A.map rwK = marR F k.toNat) ∧ (marE F k ≠ 0 → A = []) :=
    fun he => ⟨_, [], by rw [he], ⟨SlR.empty, by simp⟩, fun h => absurd (he.symm.trans h) (by omega), fun _ => rfl⟩
  refine yq136 ?_
  (repeat refine sq ?_)
  refine T.cut2G [(0, Value.slice am L.length cm), (1, Value.int IntKind.i64 k)] (γ := Unit) (fun _ => marE F k = 0) (fun _ => []) (fun _ => []) ?_ fun K => ?_
  rotate_left
  · cases hv : validR F
    · rw [hv] at hva
      refine yq81 ?_; refine T.callV Wanted.none rfl rfl (hva) ?_; refine yq107 ?_; refine yq8 ?_; refine yq141 ?_; refine yq66 ?_; refine yq177 ?_; refine yq93 ?_; refine su ?_; refine sp ?_; refine yq157 ?_; refine yq136 ?_
      exact T.retF (Lv.fin (RV.tmp2 rfl rfl rfl) (hend (by unfold marE; rw [if_pos (.inl hv)])))
    rw [hv] at hva
    by_cases c1 : k < 0
    · have d1 : decide (k < 0) = true := decide_eq_true c1
      refine yq81 ?_; refine T.callV Wanted.none rfl rfl (hva) ?_; refine yq107 ?_; refine gm ?_; refine yq139 ?_; refine yq57 ?_; refine yq57 ?_; refine yq177 ?_; refine yq93 ?_; refine su ?_; refine T.pass (Unwanted.guard rfl rfl (by assumption)) rfl rfl ?_; refine sv (PV.pickT rfl (by assumption) rfl) ?_; refine yq36 ?_; refine yq136 ?_
      exact T.retF (Lv.fin (RV.tmp2 rfl rfl rfl) (hend (by unfold marE; rw [if_pos (.inr (.inl c1))])))
    have d1 : decide (k < 0) = false := decide_eq_false c1
    by_cases c2 : 0 < L.length
    · have d2 : decide ((0 : Int) < (L.length : Int)) = true := decide_eq_true (by omega)
      obtain ⟨b0, off0, r0, rfl, h0x, hsub0⟩ := RowL.get encRw_len hL.1 c2
      have hr0ok := hL.2 r0 (List.mem_of_getElem? h0x)
      obtain ⟨ar0, cr0, hr0v⟩ := hr0ok.1.len
      unfold encRw at hsub0
      rw [hr0v] at hsub0
      have hsub0' : SubC H b0 (off0 + (0 : Int).toNat * 2) [.slice ar0 r0.ks.length cr0, .int .i64 r0.n] := hsub0
      have hkn : keysN F = r0.ks.length := by
        rw [hF]
        cases hLc : L with
        | nil => rw [hLc] at c2; simp at c2
        | cons a l => rw [hLc] at h0x; simp at h0x; subst h0x; rfl
      have hne : F ≠ [] := by intro h; rw [h] at hFl; simp at hFl; omega
      by_cases c3 : (r0.ks.length : Int) ≤ k
      · have d3 : decide ((r0.ks.length : Int) ≤ k) = true := decide_eq_true c3
        refine yq81 ?_; refine T.callV Wanted.none rfl rfl (hva) ?_; refine yq107 ?_; refine gm ?_; refine yq139 ?_; refine T.pv (PV.move rfl) (Wanted.guard rfl rfl (by assumption)) rfl rfl ?_; refine T.pv (PV.lenSl rfl) (Wanted.guard rfl rfl (by assumption)) rfl rfl ?_; refine T.pv (PV.gtr rfl rfl) (Wanted.guard rfl rfl (by assumption)) rfl rfl ?_; refine yq126 ?_; refine T.pv (PV.move rfl) (Wanted.guard rfl rfl (by assumption)) rfl rfl ?_; refine T.pv (PV.indexAddr rfl rfl (by omega)) (Wanted.guard rfl rfl (by assumption)) rfl rfl ?_; refine T.pv (PV.fieldAddr rfl) (Wanted.guard rfl rfl (by assumption)) rfl rfl ?_; refine T.pv (PV.loadSub rfl (by assumption) rfl) (Wanted.guard rfl rfl (by assumption)) rfl rfl ?_; refine T.pv (PV.lenSl rfl) (Wanted.guard rfl rfl (by assumption)) rfl rfl ?_; refine T.pv (PV.geq rfl rfl) (Wanted.guard rfl rfl (by assumption)) rfl rfl ?_; refine T.pv (PV.pickT rfl (by assumption) rfl) (Wanted.guard rfl rfl (by assumption)) rfl rfl ?_; refine sv (PV.pickF rfl (by assumption) rfl) ?_; refine so ?_; refine T.condT rfl (by assumption) ?_; refine yq136 ?_
        exact T.retF (Lv.fin (RV.tmp2 rfl rfl rfl) (hend (by unfold marE; rw [if_pos (.inr (.inr ⟨hne, by rw [hkn]; exact c3⟩))])))
      · have d3 : decide ((r0.ks.length : Int) ≤ k) = false := decide_eq_false c3
        refine yq81 ?_; refine T.callV Wanted.none rfl rfl (hva) ?_; refine yq107 ?_; refine gm ?_; refine yq139 ?_; refine T.pv (PV.move rfl) (Wanted.guard rfl rfl (by assumption)) rfl rfl ?_; refine T.pv (PV.lenSl rfl) (Wanted.guard rfl rfl (by assumption)) rfl rfl ?_; refine T.pv (PV.gtr rfl rfl) (Wanted.guard rfl rfl (by assumption)) rfl rfl ?_; refine yq126 ?_; refine T.pv (PV.move rfl) (Wanted.guard rfl rfl (by assumption)) rfl rfl ?_; refine T.pv (PV.indexAddr rfl rfl (by omega)) (Wanted.guard rfl rfl (by assumption)) rfl rfl ?_; refine T.pv (PV.fieldAddr rfl) (Wanted.guard rfl rfl (by assumption)) rfl rfl ?_; refine T.pv (PV.loadSub rfl (by assumption) rfl) (Wanted.guard rfl rfl (by assumption)) rfl rfl ?_; refine T.pv (PV.lenSl rfl) (Wanted.guard rfl rfl (by assumption)) rfl rfl ?_; refine T.pv (PV.geq rfl rfl) (Wanted.guard rfl rfl (by assumption)) rfl rfl ?_; refine T.pv (PV.pickT rfl (by assumption) rfl) (Wanted.guard rfl rfl (by assumption)) rfl rfl ?_; refine sv (PV.pickF rfl (by assumption) rfl) ?_; refine so ?_; refine yq108 ?_; refine K () _ _ ?_ ?_ ?_
        · unfold marE
          rw [if_neg]
          rintro (h | h | h)
          · rw [hv] at h; cases h
          · exact c1 h
          · rw [hkn] at h; exact c3 h.2
        · exact zq8
        · exact (by repeat (first | exact Sel.refl _ | exact Sel.nil | (refine Sel.cons zq1 ?_) | (refine Sel.app zq1 ?_) | exact Sel.one zq1))
    · have d2 : decide ((0 : Int) < (L.length : Int)) = false := decide_eq_false (by omega)
      refine yq81 ?_; refine T.callV Wanted.none rfl rfl (hva) ?_; refine yq107 ?_; refine gm ?_; refine yq139 ?_; refine T.pv (PV.move rfl) (Wanted.guard rfl rfl (by assumption)) rfl rfl ?_; refine T.pv (PV.lenSl rfl) (Wanted.guard rfl rfl (by assumption)) rfl rfl ?_; refine T.pv (PV.gtr rfl rfl) (Wanted.guard rfl rfl (by assumption)) rfl rfl ?_; refine T.pv (PV.move rfl) (Wanted.guard rfl rfl (by assumption)) rfl rfl ?_; refine yq57 ?_; refine yq57 ?_; refine yq57 ?_; refine T.pass (Unwanted.guard rfl rfl (by assumption)) rfl rfl ?_; refine T.pv (PV.pickF rfl (by assumption) rfl) (Wanted.guard rfl rfl (by assumption)) rfl rfl ?_; refine sv (PV.pickF rfl (by assumption) rfl) ?_; refine yq92 ?_; refine K () _ _ ?_ ?_ ?_
      · unfold marE
        rw [if_neg]
        rintro (h | h | h)
        · rw [hv] at h; cases h
        · exact c1 h
        · exact h.1 (List.eq_nil_of_length_eq_zero (by omega))
      · exact zq8
      · exact (by repeat (first | exact Sel.refl _ | exact Sel.nil | (refine Sel.cons zq1 ?_) | (refine Sel.app zq1 ?_) | exact Sel.one zq1))
  rintro ⟨⟩ h0
  obtain ⟨hv, hk0, hkl⟩ := marE_ok h0
  have hpos : ∀ r ∈ L, 1 ≤ r.n ∧ k < r.ks.length := fun r hr => by
    have hm : rwK r ∈ F := by rw [hF]; exact List.mem_map_of_mem hr
    have h1 := validR_mem hv hm
    have h2 := hkl (by intro h; rw [h] at hm; cases hm)
    exact ⟨h1.2.2.2, by rw [show r.ks.length = keysN F from h1.2.2.1]; exact h2⟩
  dsimp only [List.nil_append]
  refine yq25 ?_; refine yq112 ?_; refine T.loopK [(31, Value.int IntKind.i64 (↑L.length : Int)), (30, Value.slice am L.length cm), (1, Value.int IntKind.i64 k)] zq8 (γ := MgG) (fun g => g.i ≤ L.length ∧ H.le g.H ∧ RowV 52 encRw 2 g.v g.lv g.R ∧ (∀ r ∈ g.R, RwOk g.H r) ∧ g.R.map rwK = (F.take g.i).map (fun r => ([r.1.getD k.toNat ⟨#[]⟩], r.2))) (fun g => [(32, .int .i64 (g.i : Int)), (6, g.v)]) (fun g => g.lv) (fun g => g.H) (fun g => L.length - g.i) ⟨0, H, .slice none 0 0, [], []⟩ ⟨by simp, Hp.le.refl _, Vec.nil _ _, by simp, by simp⟩ zq8 (by repeat (first | exact Sel.refl _ | exact Sel.nil | (refine Sel.cons zq1 ?_) | (refine Sel.app zq1 ?_) | exact Sel.one zq1)) rfl ?_
  rintro ⟨i, H2, v, lv, R⟩ ⟨g1, g2, g3, g4, g5⟩
  dsimp only at g1 g2 g3 g4 g5 ⊢
  obtain ⟨adv, capv, rfl⟩ := g3.val
  have hRl : R.length = i := by have := congrArg List.length g5; rw [List.length_map, List.length_map, List.length_take] at this; omega
  by_cases hi : i < L.length
  · obtain ⟨bx, off, r, rfl, hix, hsub⟩ := RowL.get encRw_len (hL.1.mono g2) hi
    have hmm := List.mem_of_getElem? hix
    have hrok := (hL.2 r hmm).mono g2
    obtain ⟨hrp, hrk⟩ := hpos r hmm
    obtain ⟨ar, cr, hrv⟩ := hrok.1.len
    have hrs := hrok.1
    rw [hrv] at hrs
    unfold encRw at hsub
    rw [hrv] at hsub
    obtain ⟨bk, offk, s, rfl, hks, hsubk⟩ := RowL.get encT_len hrs (show k.toNat < r.ks.length by omega)
    unfold encT at hsubk
    have hFi : F[i]? = some (rwK r) := by rw [hF, List.getElem?_map, hix]; rfl
    have hst : (F.take (i + 1)).map (fun r => ([r.1.getD k.toNat ⟨#[]⟩], r.2)) = (F.take i).map (fun r => ([r.1.getD k.toNat ⟨#[]⟩], r.2)) ++ [([s], r.n)] := by
      rw [List.take_add_one, hFi, List.map_append]
      show _ ++ [([r.ks.getD k.toNat ⟨#[]⟩], r.n)] = _
      rw [List.getD_eq_getElem?_getD, hks]; rfl
    refine yq110 ?_; refine sy fun b8 => ?_; refine yq13 ?_
    (repeat refine sq ?_)
    refine T.regionO [(b8, .cells #[.slice (some ⟨bk, offk, none⟩) r.ks.length cr, .int .i64 r.n] 52 (0, 0))] (by kernel_rfl) ?_; refine TO.take 0 rfl (by kernel_rfl) (by kernel_rfl) (by kernel_rfl) (PV.move rfl) Wanted.none rfl rfl ?_; refine TO.take 1 rfl (by kernel_rfl) (by kernel_rfl) (by kernel_rfl) (PV.fieldAddr rfl) Wanted.none rfl rfl ?_; refine TO.take 2 rfl (by kernel_rfl) (by kernel_rfl) (by kernel_rfl) (PV.load1 rfl zq0 rfl) Wanted.none rfl rfl ?_; refine TO.take 3 rfl (by kernel_rfl) (by kernel_rfl) (by kernel_rfl) (PV.move rfl) Wanted.none rfl rfl ?_; refine TO.take 4 rfl (by kernel_rfl) (by kernel_rfl) (by kernel_rfl) (PV.indexAddr rfl rfl (by omega)) Wanted.none rfl rfl ?_; refine TO.take 5 rfl (by kernel_rfl) (by kernel_rfl) (by kernel_rfl) (PV.loadSub0 rfl (by assumption)) Wanted.none rfl rfl ?_; refine TO.take 7 rfl (by kernel_rfl) (by kernel_rfl) (by kernel_rfl) (PV.fieldAddr rfl) Wanted.none rfl rfl ?_; refine TO.take 8 rfl (by kernel_rfl) (by kernel_rfl) (by kernel_rfl) (PV.load1 rfl zq0 rfl) Wanted.none rfl rfl ?_; refine TO.step 6 rfl (by kernel_rfl) zq4 zq17 ?_; (refine T.buildSlice Wanted.none rfl rfl zq11 (by exact rfl) (by exact rfl) ?_; intro b42); refine yq62 ?_; refine TO.take 9 rfl (by kernel_rfl) (by kernel_rfl) (by kernel_rfl) (PV.build rfl zq12) Wanted.none rfl rfl ?_; refine TO.step 10 rfl (by kernel_rfl) zq4 zq17 ?_; (refine T.buildSlice Wanted.none rfl rfl zq11 (by exact rfl) (by exact rfl) ?_; intro b46); refine yq62 ?_; refine TO.step 11 rfl (by kernel_rfl) zq4 zq17 ?_; (refine T.appendP (lv := lv) Wanted.none rfl rfl rfl g3 (Src.cells (m := 1) (ys := [.slice (some ⟨b42, 0, none⟩) 1 1, .int .i64 r.n]) (.own zq2) rfl rfl) (by intro v hv; simp only [List.mem_cons, List.not_mem_nil, or_false] at hv; rcases hv with rfl | rfl <;> rfl) (by omega) zq1 ?_; intro v47 lv47 hv47 _; obtain ⟨ad47, cap47, rfl⟩ := hv47.val); refine yq62 ?_; refine TO.take 12 rfl (by kernel_rfl) (by kernel_rfl) (by kernel_rfl) (PV.assign rfl) Wanted.none rfl rfl ?_; refine TO.done (by kernel_rfl) zq4 zq17 ?_; refine T.blkEnd ?_; refine T.freezeB (b := b42) zq1 ?_
    intro H3 h3 j42
    have hnew : RwOk H3 ⟨.slice (some ⟨b42, 0, none⟩) 1 1, [s], r.n⟩ := ⟨⟨rfl, .inr ⟨b42, 0, 1, _, _, _, rfl, j42, rfl, Nat.le_refl 1⟩⟩, by show 1 ≤ 1000; omega, by have := joinL_one hks; have := hrok.2.2; show (joinL [s]).length ≤ _; omega⟩
    refine sr ?_; refine yq60 ?_
    refine T.nextP ⟨i + 1, H3, _, lv47, R ++ [⟨.slice (some ⟨b42, 0, none⟩) 1 1, [s], r.n⟩]⟩ ⟨by dsimp only; omega, g2.trans h3, RowV.snoc hv47, fun x hx => ?_, by dsimp only; rw [hst, List.map_append, g5]; rfl⟩ (by dsimp only; omega) zq8 (by repeat (first | exact Sel.refl _ | exact Sel.nil | (refine Sel.cons zq1 ?_) | (refine Sel.app zq1 ?_) | exact Sel.one zq1)) rfl
    rcases List.mem_append.1 hx with hx | hx
    · exact (g4 x hx).mono h3
    · rw [List.mem_singleton] at hx; subst hx; exact hnew
  · rw [List.take_of_length_le (by omega)] at g5
    refine yq74 ?_; refine T.freezeP (lv := lv) g3 zq1 ?_
    intro H3 h3 hs3
    have hRn : ∀ x ∈ R, 0 ≤ x.n ∧ x.n ≤ 1099511627776 := by
      intro x hx
      have h1 : rwK x ∈ R.map rwK := List.mem_map_of_mem hx
      rw [g5, hF, List.map_map] at h1
      obtain ⟨z, hz, he⟩ := List.mem_map.1 h1
      have h2 : x.n = z.n := (congrArg Prod.snd he).symm
      have h3 := hn z hz
      have h4 := (hpos z hz).1
      omega
    have hsm := sum_fn R (.slice adv R.length capv) H3 (hT.mono (g2.trans h3)) ⟨hs3, fun x hx => (g4 x hx).mono h3⟩ (by omega) hRn
    refine yq2 ?_; (refine T.call Wanted.none rfl rfl hsm ?_; rintro _ H50 h50 ⟨A, hA, hAk⟩; obtain ⟨aa, ca, rfl⟩ := hA.1.len); refine yq55 ?_
    exact T.retF (Lv.fin (RV.tmp2 rfl rfl rfl) ⟨_, A, by rw [h0], hA, fun _ => by rw [hAk, g5]; rfl, fun h => absurd h0 h⟩)
end Go.Proofs.YthacphfjchpoaaaGreatDoor
