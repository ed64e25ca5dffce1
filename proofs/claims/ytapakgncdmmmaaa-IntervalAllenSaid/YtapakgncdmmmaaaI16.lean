/- interval: the law Allen. -/
import Derived.Test.YtapakgncdmmmaaaI14
namespace Go.Proofs.Ytapakgncdmmmaaa
open Go.RowKit

def pW (n : Int) : Bool := decide (n = 6 ∨ n = 7 ∨ n = 9 ∨ n = 10)
def pC (n : Int) : Bool := decide (n = 4 ∨ n = 5 ∨ n = 7 ∨ n = 8)
def pO (n : Int) : Bool := decide (3 ≤ n ∧ n ≤ 11)
theorem pW_rel {s t : Sp} (h : okV s t) : pW (relI s t) = decide (t.1 ≤ s.1 ∧ s.2 ≤ t.2) := by
  have r := relI_all s t
  unfold pW
  rw [decide_eq_decide]
  generalize relI s t = n at r
  unfold okV at h
  cases r <;> first | omega | (unfold okV at *; omega)
theorem pC_rel {s t : Sp} (h : okV s t) : pC (relI s t) = decide (s.1 ≤ t.1 ∧ t.2 ≤ s.2) := by
  have r := relI_all s t
  unfold pC
  rw [decide_eq_decide]
  generalize relI s t = n at r
  unfold okV at h
  cases r <;> first | omega | (unfold okV at *; omega)
theorem pO_rel {s t : Sp} (h : okV s t) : pO (relI s t) = decide (s.1 < t.2 ∧ t.1 < s.2) := by
  have r := relI_all s t
  unfold pO
  rw [decide_eq_decide]
  generalize relI s t = n at r
  unfold okV at h
  cases r <;> first | omega | (unfold okV at *; omega)
theorem any_on {b : List Sp} {p q : Sp → Bool} (h : ∀ t ∈ b, p t = q t) : b.any p = b.any q := by
  rw [Bool.eq_iff_iff, List.any_eq_true, List.any_eq_true]
  exact ⟨fun ⟨t, ht, h1⟩ => ⟨t, ht, by rw [← h t ht]; exact h1⟩, fun ⟨t, ht, h1⟩ => ⟨t, ht, by rw [h t ht]; exact h1⟩⟩
theorem mem_sel {a : List Sp} {p : Sp → Bool} {s : Sp} (hs : s ∈ a) : decide (s ∈ (normS a).filter p) = p s := by
  rw [Bool.eq_iff_iff, decide_eq_true_eq, List.mem_filter, normS_mem]
  exact ⟨fun h => h.2, fun h => ⟨hs, h⟩⟩
theorem allen_W {a b : List Sp} {s : Sp} (hs : s ∈ a) (hv : ∀ t ∈ b, okV s t) : decide (s ∈ (normS a).filter (inW (normS b))) = b.any fun t => pW (relI s t) := by
  rw [mem_sel hs]
  unfold inW
  rw [any_congr (normS_mem b)]
  exact any_on fun t ht => (pW_rel (hv t ht)).symm
theorem allen_C {a b : List Sp} {s : Sp} (hs : s ∈ a) (hv : ∀ t ∈ b, okV s t) : decide (s ∈ (normS a).filter (inC (normS b))) = b.any fun t => pC (relI s t) := by
  rw [mem_sel hs]
  unfold inC
  rw [any_congr (normS_mem b)]
  exact any_on fun t ht => (pC_rel (hv t ht)).symm
theorem allen_O {a b : List Sp} {s : Sp} (hs : s ∈ a) (hb : ∀ t ∈ b, t.1 < t.2) (hv : ∀ t ∈ b, okV s t) (hsp : s.1 < s.2) : decide (s ∈ (normS a).filter (inO (covL (normS b)))) = b.any fun t => pO (relI s t) := by
  rw [mem_sel hs, inO_cov (fun t ht => hb t ((normS_mem b t).1 ht)) (sortedS_fst (normS_sorted b)) s hsp]
  unfold inO
  rw [any_congr (normS_mem b)]
  exact any_on fun t ht => (pO_rel (hv t ht)).symm
set_option maxHeartbeats 8000000 in
theorem allen_fn (a b : List Sp) (u v : Value) (H : Hp) (hu : SpL H u a) (hv : SpL H v b) (ha : a.length ≤ maxLen) (hb : b.length ≤ maxLen) (hm : ∀ t ∈ b, t.2 ≤ 9223372036854775807) : Fn Try.prog 10 #[u, v] H (fun v _ => v = .bool true) := by
  obtain ⟨ada, capa, rfl⟩ := hu.len
  obtain ⟨adb, capb, rfl⟩ := hv.len
  refine Fn.of_T (vs := [.slice ada a.length capa, .slice adb b.length capb]) Try.func10 rfl rfl fun w => ?_
  by_cases hla : 12 < a.length
  · refine T.seq ?_
    refine T.region ?_
    refine T.pv (PV.assign rfl) Wanted.none rfl rfl ?_
    refine T.opsNil ?_
    refine T.seq ?_
    refine T.seq ?_
    refine T.region ?_
    refine T.pv (PV.move rfl) Wanted.none rfl rfl ?_
    refine T.pv (PV.lenSl rfl) Wanted.none rfl rfl ?_
    refine T.pv (PV.gtr rfl rfl) Wanted.none rfl rfl ?_
    refine T.pv (PV.move rfl) Wanted.none rfl rfl ?_
    refine T.setT (d := 22) rfl (by omega) ?_
    refine T.pass (Unwanted.guard rfl rfl rfl) rfl rfl ?_
    refine T.pass (Unwanted.guard rfl rfl rfl) rfl rfl ?_
    refine T.pass (Unwanted.guard rfl rfl rfl) rfl rfl ?_
    refine T.pv (PV.pickT rfl rfl rfl) Wanted.none rfl rfl ?_
    refine T.opsNil ?_
    refine T.condT rfl rfl ?_
    refine T.seq ?_
    refine T.region ?_
    refine T.pv (PV.assign rfl) Wanted.none rfl rfl ?_
    refine T.opsNil ?_
    exact T.retF (Lv.fin (RV.tmp rfl rfl) rfl)
  by_cases hlb : 12 < b.length
  · refine T.seq ?_
    refine T.region ?_
    refine T.pv (PV.assign rfl) Wanted.none rfl rfl ?_
    refine T.opsNil ?_
    refine T.seq ?_
    refine T.seq ?_
    refine T.region ?_
    refine T.pv (PV.move rfl) Wanted.none rfl rfl ?_
    refine T.pv (PV.lenSl rfl) Wanted.none rfl rfl ?_
    refine T.pv (PV.gtr rfl rfl) Wanted.none rfl rfl ?_
    refine T.pv (PV.move rfl) Wanted.none rfl rfl ?_
    refine T.setF (d := 22) rfl (by omega) ?_
    refine T.pv (PV.move rfl) (Wanted.guard rfl rfl rfl) rfl rfl ?_
    refine T.pv (PV.lenSl rfl) (Wanted.guard rfl rfl rfl) rfl rfl ?_
    refine T.pv (PV.gtr rfl rfl) (Wanted.guard rfl rfl rfl) rfl rfl ?_
    refine T.pv (PV.pickF rfl rfl rfl) Wanted.none rfl rfl ?_
    refine T.opsNil ?_
    refine T.condT rfl (decide_eq_true (by omega)) ?_
    refine T.seq ?_
    refine T.region ?_
    refine T.pv (PV.assign rfl) Wanted.none rfl rfl ?_
    refine T.opsNil ?_
    exact T.retF (Lv.fin (RV.tmp rfl rfl) rfl)
  refine T.seq ?_
  refine T.region ?_
  refine T.pv (PV.assign rfl) Wanted.none rfl rfl ?_
  refine T.opsNil ?_
  refine T.seq ?_
  refine T.seq ?_
  refine T.region ?_
  refine T.pv (PV.move rfl) Wanted.none rfl rfl ?_
  refine T.pv (PV.lenSl rfl) Wanted.none rfl rfl ?_
  refine T.pv (PV.gtr rfl rfl) Wanted.none rfl rfl ?_
  refine T.pv (PV.move rfl) Wanted.none rfl rfl ?_
  refine T.setF (d := 22) rfl (by omega) ?_
  refine T.pv (PV.move rfl) (Wanted.guard rfl rfl rfl) rfl rfl ?_
  refine T.pv (PV.lenSl rfl) (Wanted.guard rfl rfl rfl) rfl rfl ?_
  refine T.pv (PV.gtr rfl rfl) (Wanted.guard rfl rfl rfl) rfl rfl ?_
  refine T.pv (PV.pickF rfl rfl rfl) Wanted.none rfl rfl ?_
  refine T.opsNil ?_
  refine T.condF rfl (decide_eq_false (by omega)) ?_
  refine T.skip ?_
  refine T.seq ?_
  refine T.region ?_
  refine T.pv (PV.move rfl) Wanted.none rfl rfl ?_
  refine T.pv (PV.move rfl) Wanted.none rfl rfl ?_
  refine T.call Wanted.none rfl rfl (within_fn a b _ _ H hu hv ha hb) ?_
  rintro _ H1 hle1 ⟨r1, rfl, hr1⟩
  have hu1 := hu.mono hle1
  have hv1 := hv.mono hle1
  refine T.pv (PV.move rfl) Wanted.none rfl rfl ?_
  refine T.pv (PV.extract rfl rfl) Wanted.none rfl rfl ?_
  refine T.pv (PV.extract rfl rfl) Wanted.none rfl rfl ?_
  refine T.pv (PV.assign rfl) Wanted.none rfl rfl ?_
  refine T.pv (PV.assign rfl) Wanted.none rfl rfl ?_
  refine T.opsNil ?_
  refine T.seq ?_
  refine T.region ?_
  refine T.pv (PV.move rfl) Wanted.none rfl rfl ?_
  refine T.pv (PV.move rfl) Wanted.none rfl rfl ?_
  refine T.call Wanted.none rfl rfl (containing_fn a b _ _ H1 hu1 hv1 ha hb hm) ?_
  rintro _ H2 hle2 ⟨r2, rfl, hr2⟩
  have hu2 := hu1.mono hle2
  have hv2 := hv1.mono hle2
  refine T.pv (PV.move rfl) Wanted.none rfl rfl ?_
  refine T.pv (PV.extract rfl rfl) Wanted.none rfl rfl ?_
  refine T.pv (PV.extract rfl rfl) Wanted.none rfl rfl ?_
  refine T.pv (PV.assign rfl) Wanted.none rfl rfl ?_
  refine T.pv (PV.assign rfl) Wanted.none rfl rfl ?_
  refine T.opsNil ?_
  refine T.seq ?_
  refine T.region ?_
  refine T.pv (PV.move rfl) Wanted.none rfl rfl ?_
  refine T.pv (PV.move rfl) Wanted.none rfl rfl ?_
  refine T.call Wanted.none rfl rfl (overlapping_fn a b _ _ H2 hu2 hv2 ha hb) ?_
  rintro _ H3 hle3 ⟨r3, rfl, hr3⟩
  have hu3 := hu2.mono hle3
  have hv3 := hv2.mono hle3
  have hr1 := (hr1.mono hle2).mono hle3
  have hr2 := hr2.mono hle3
  have hw := awake_fn H3
  by_cases hc : chk2 a b = 0
  · obtain ⟨hca, hcb⟩ := chk2_zero hc
    obtain ⟨_, hoka⟩ := chk1_zero hca
    obtain ⟨_, hokb⟩ := chk1_zero hcb
    rw [if_pos hc] at hr1 hr2 hr3
    rw [hc]
    have hnl := normS_len a
    have hf1 := List.length_filter_le (inW (normS b)) (normS a)
    have hf2 := List.length_filter_le (inC (normS b)) (normS a)
    have hf3 := List.length_filter_le (inO (covL (normS b))) (normS a)
    refine T.pv (PV.move rfl) Wanted.none rfl rfl ?_
    refine T.pv (PV.extract rfl rfl) Wanted.none rfl rfl ?_
    refine T.pv (PV.extract rfl rfl) Wanted.none rfl rfl ?_
    refine T.pv (PV.assign rfl) Wanted.none rfl rfl ?_
    refine T.pv (PV.assign rfl) Wanted.none rfl rfl ?_
    refine T.opsNil ?_
    refine T.seq ?_
    refine T.seq ?_
    refine T.region ?_
    refine T.pv (PV.move rfl) Wanted.none rfl rfl ?_
    refine T.pv (PV.neq rfl rfl) Wanted.none rfl rfl ?_
    refine T.pv (PV.move rfl) Wanted.none rfl rfl ?_
    refine T.pv (PV.move rfl) (Wanted.guard rfl rfl rfl) rfl rfl ?_
    refine T.pv (PV.neq rfl rfl) (Wanted.guard rfl rfl rfl) rfl rfl ?_
    refine T.pv (PV.pickF rfl rfl rfl) Wanted.none rfl rfl ?_
    refine T.pv (PV.move rfl) Wanted.none rfl rfl ?_
    refine T.pv (PV.move rfl) (Wanted.guard rfl rfl rfl) rfl rfl ?_
    refine T.pv (PV.neq rfl rfl) (Wanted.guard rfl rfl rfl) rfl rfl ?_
    refine T.pv (PV.pickF rfl rfl rfl) Wanted.none rfl rfl ?_
    refine T.opsNil ?_
    refine T.condF rfl rfl ?_
    refine T.skip ?_
    refine T.seq ?_
    refine T.seq ?_
    refine T.region ?_
    refine T.pv (PV.move rfl) Wanted.none rfl rfl ?_
    refine T.pv (PV.lenSl rfl) Wanted.none rfl rfl ?_
    refine T.pv (PV.move rfl) Wanted.none rfl rfl ?_
    refine T.opsNil ?_
    refine T.block ?_
    refine T.loop (γ := Nat) (fun j => j ≤ a.length)
      (fun j => [(68, .int .i64 (j : Int)), (67, .int .i64 (a.length : Int)), (66, .slice ada a.length capa), (0, .slice ada a.length capa), (1, .slice adb b.length capb), (5, r1), (7, r2), (9, r3)])
      (fun _ => []) (fun _ => H3) (fun j => a.length - j) 0 (by omega) (by repeat (first | exact trivial | refine And.intro rfl ?_)) (by repeat (first | exact List.Sublist.slnil | exact List.nil_sublist _ | exact List.Sublist.refl _ | exact List.sublist_append_left _ [] | apply List.Sublist.cons_cons | apply List.Sublist.cons | refine List.Sublist.append_left ?_ _ | refine List.sublist_append_of_sublist_right ?_)) rfl ?_
    intro j hj0
    by_cases hj : j < a.length
    · obtain ⟨s, hs⟩ : ∃ x, a[j]? = some x := ⟨_, List.getElem?_eq_getElem hj⟩
      obtain ⟨ba, offa, rfl, hsuba⟩ := hu3.span hs
      have hsa := List.mem_of_getElem? hs
      have hos := hoka s hsa
      have hv' : ∀ t ∈ b, okV s t := fun t ht => ⟨hos.1, hos.2, hokb t ht⟩
      have q1 := has_fn _ s _ H3 hr1 (by unfold maxLen; omega)
      have q2 := has_fn _ s _ H3 hr2 (by unfold maxLen; omega)
      have q3 := has_fn _ s _ H3 hr3 (by unfold maxLen; omega)
      rw [allen_W hsa hv'] at q1
      rw [allen_C hsa hv'] at q2
      rw [allen_O hsa (fun t ht => (hokb t ht).2) hv' hos.2] at q3
      unfold spV at q1 q2 q3
      refine T.seq ?_
      refine T.region ?_
      refine T.pv (PV.lss rfl rfl) Wanted.none rfl rfl ?_
      refine T.opsNil ?_
      refine T.seq ?_
      refine T.condT rfl (decide_eq_true (by omega)) ?_
      refine T.skip ?_
      refine T.seq ?_
      refine T.block ?_
      refine T.seq ?_
      refine T.region ?_
      refine T.pv (PV.indexAddr rfl rfl (by omega)) Wanted.none rfl rfl ?_
      refine T.pv (PV.loadSubAll rfl (by assumption) (by exact rfl)) Wanted.none rfl rfl ?_
      (refine T.alloc Wanted.none rfl ?_; intro b12)
      refine T.storeA Wanted.none rfl rfl (by repeat (first | exact trivial | refine And.intro rfl ?_)) (by exact rfl) (by repeat (first | exact Upd.head | apply Upd.tail | apply Upd.app)) (by repeat (first | exact Splice.nil | apply Splice.cons | apply Splice.skip)) ?_
      refine T.opsNil ?_
      refine T.seq ?_
      refine T.region ?_
      refine T.pv (PV.assign rfl) Wanted.none rfl rfl ?_
      refine T.pv (PV.assign rfl) Wanted.none rfl rfl ?_
      refine T.pv (PV.assign rfl) Wanted.none rfl rfl ?_
      refine T.opsNil ?_
      refine T.seq ?_
      refine T.seq ?_
      refine T.region ?_
      refine T.pv (PV.move rfl) Wanted.none rfl rfl ?_
      refine T.pv (PV.lenSl rfl) Wanted.none rfl rfl ?_
      refine T.pv (PV.move rfl) Wanted.none rfl rfl ?_
      refine T.opsNil ?_
      refine T.block ?_
      refine T.loop (γ := Nat) (fun k => k ≤ b.length)
        (fun k => [(68, .int .i64 (j : Int)), (67, .int .i64 (a.length : Int)), (66, .slice (some ⟨ba, offa, none⟩) a.length capa), (0, .slice (some ⟨ba, offa, none⟩) a.length capa), (1, .slice adb b.length capb), (5, r1), (7, r2), (9, r3), (12, .pointer (some ⟨b12, 0, none⟩)), (74, .int .i64 (k : Int)), (73, .int .i64 (b.length : Int)), (72, .slice adb b.length capb), (13, .bool ((b.take k).any fun t => pW (relI s t))), (14, .bool ((b.take k).any fun t => pC (relI s t))), (15, .bool ((b.take k).any fun t => pO (relI s t)))])
        (fun _ => [(b12, .cells #[.int .i64 s.1, .int .i64 s.2] 23 (0, 0))]) (fun _ => H3) (fun k => b.length - k) 0 (by omega) (by repeat (first | exact trivial | refine And.intro rfl ?_)) (by repeat (first | exact List.Sublist.slnil | exact List.nil_sublist _ | exact List.Sublist.refl _ | exact List.sublist_append_left _ [] | apply List.Sublist.cons_cons | apply List.Sublist.cons | refine List.Sublist.append_left ?_ _ | refine List.sublist_append_of_sublist_right ?_)) rfl ?_
      intro k hk0
      by_cases hk : k < b.length
      · obtain ⟨t, ht⟩ : ∃ x, b[k]? = some x := ⟨_, List.getElem?_eq_getElem hk⟩
        obtain ⟨bb, offb, rfl, hsubb⟩ := hv3.span ht
        have hrel := relation_fn s t H3
        unfold spV at hrel
        have n1 := any_snoc (p := fun t => pW (relI s t)) ht
        have n2 := any_snoc (p := fun t => pC (relI s t)) ht
        have n3 := any_snoc (p := fun t => pO (relI s t)) ht
        generalize relI s t = n at *
        generalize hx : ((b.take k).any fun t => pW (relI s t)) = x at *
        generalize hy : ((b.take k).any fun t => pC (relI s t)) = y at *
        generalize hz : ((b.take k).any fun t => pO (relI s t)) = z at *
        refine T.seq ?_
        refine T.region ?_
        refine T.pv (PV.lss rfl rfl) Wanted.none rfl rfl ?_
        refine T.opsNil ?_
        refine T.seq ?_
        refine T.condT rfl (decide_eq_true (by omega)) ?_
        refine T.skip ?_
        refine T.seq ?_
        refine T.block ?_
        refine T.seq ?_
        refine T.region ?_
        refine T.pv (PV.indexAddr rfl rfl (by omega)) Wanted.none rfl rfl ?_
        refine T.pv (PV.loadSubAll rfl (by assumption) (by exact rfl)) Wanted.none rfl rfl ?_
        (refine T.alloc Wanted.none rfl ?_; intro b17)
        refine T.storeA Wanted.none rfl rfl (by repeat (first | exact trivial | refine And.intro rfl ?_)) (by exact rfl) (by repeat (first | exact Upd.head | apply Upd.tail | apply Upd.app)) (by repeat (first | exact Splice.nil | apply Splice.cons | apply Splice.skip)) ?_
        refine T.opsNil ?_
        refine T.seq ?_
        refine T.region ?_
        refine T.pv (PV.loadAll rfl (by first | exact .fro (by assumption) | exact .own (by repeat (first | exact List.Mem.head _ | apply List.Mem.tail | apply List.mem_append_right))) (by exact rfl)) Wanted.none rfl rfl ?_
        refine T.pv (PV.loadAll rfl (by first | exact .fro (by assumption) | exact .own (by repeat (first | exact List.Mem.head _ | apply List.Mem.tail | apply List.mem_append_right))) (by exact rfl)) Wanted.none rfl rfl ?_
        refine T.callV Wanted.none rfl rfl (hrel) ?_
        refine T.pv (PV.assign rfl) Wanted.none rfl rfl ?_
        refine T.opsNil ?_
        refine T.seq ?_
        refine T.cut1 [(68, .int .i64 (j : Int)), (67, .int .i64 (a.length : Int)), (66, .slice (some ⟨ba, offa, none⟩) a.length capa), (0, .slice (some ⟨ba, offa, none⟩) a.length capa), (1, .slice (some ⟨bb, offb, none⟩) b.length capb), (5, r1), (7, r2), (9, r3), (12, .pointer (some ⟨b12, 0, none⟩)), (74, .int .i64 (k : Int)), (73, .int .i64 (b.length : Int)), (72, .slice (some ⟨bb, offb, none⟩) b.length capb), (18, .int .i64 n), (13, .bool (x || pW n)), (14, .bool y), (15, .bool z)] [(b12, .cells #[.int .i64 s.1, .int .i64 s.2] 23 (0, 0))] ?_ fun K => ?_
        rotate_left
        · rcases (by cases x <;> simp <;> omega : (x = true) ∨ (x = false ∧ n = 6) ∨ (x = false ∧ n = 7) ∨ (x = false ∧ n = 9) ∨ (x = false ∧ n = 10) ∨ (x = false ∧ n ≠ 6 ∧ n ≠ 7 ∧ n ≠ 9 ∧ n ≠ 10)) with h | ⟨h, h1⟩ | ⟨h, h1⟩ | ⟨h, h1⟩ | ⟨h, h1⟩ | ⟨h, h1, h2, h3, h4⟩
          · rw [show (x || pW n) = true by rw [h]; rfl] at K
            refine T.region ?_
            refine T.pv (PV.move rfl) Wanted.none rfl rfl ?_
            refine T.pv (PV.move rfl) Wanted.none rfl rfl ?_
            refine T.pass (Unwanted.guard rfl rfl (by assumption)) rfl rfl ?_
            refine T.pass (Unwanted.guard rfl rfl (by assumption)) rfl rfl ?_
            refine T.pv (PV.pickT rfl (by assumption) rfl) Wanted.none rfl rfl ?_
            refine T.pv (PV.move rfl) Wanted.none rfl rfl ?_
            refine T.pass (Unwanted.guard rfl rfl rfl) rfl rfl ?_
            refine T.pass (Unwanted.guard rfl rfl rfl) rfl rfl ?_
            refine T.pv (PV.pickT rfl rfl rfl) Wanted.none rfl rfl ?_
            refine T.pv (PV.move rfl) Wanted.none rfl rfl ?_
            refine T.pass (Unwanted.guard rfl rfl rfl) rfl rfl ?_
            refine T.pass (Unwanted.guard rfl rfl rfl) rfl rfl ?_
            refine T.pv (PV.pickT rfl rfl rfl) Wanted.none rfl rfl ?_
            refine T.pv (PV.move rfl) Wanted.none rfl rfl ?_
            refine T.pass (Unwanted.guard rfl rfl rfl) rfl rfl ?_
            refine T.pass (Unwanted.guard rfl rfl rfl) rfl rfl ?_
            refine T.pv (PV.pickT rfl rfl rfl) Wanted.none rfl rfl ?_
            refine T.pv (PV.assign rfl) Wanted.none rfl rfl ?_
            refine T.opsNil ?_
            exact K _ _ (by repeat (first | exact trivial | refine And.intro rfl ?_)) (by repeat (first | exact List.Sublist.slnil | exact List.nil_sublist _ | exact List.Sublist.refl _ | exact List.sublist_append_left _ [] | apply List.Sublist.cons_cons | apply List.Sublist.cons | refine List.Sublist.append_left ?_ _ | refine List.sublist_append_of_sublist_right ?_))
          · rw [show (x || pW n) = true by rw [h, h1]; rfl] at K
            refine T.region ?_
            refine T.pv (PV.move rfl) Wanted.none rfl rfl ?_
            refine T.pv (PV.move rfl) Wanted.none rfl rfl ?_
            refine T.pv (PV.move rfl) (Wanted.guard rfl rfl (by assumption)) rfl rfl ?_
            refine T.pv (PV.eql rfl rfl) (Wanted.guard rfl rfl (by assumption)) rfl rfl ?_
            refine T.pv (PV.pickF rfl (by assumption) rfl) Wanted.none rfl rfl ?_
            refine T.pv (PV.move rfl) Wanted.none rfl rfl ?_
            refine T.setT (d := 86) rfl (by omega) ?_
            refine T.pass (Unwanted.guard rfl rfl rfl) rfl rfl ?_
            refine T.pass (Unwanted.guard rfl rfl rfl) rfl rfl ?_
            refine T.pv (PV.pickT rfl rfl rfl) Wanted.none rfl rfl ?_
            refine T.pv (PV.move rfl) Wanted.none rfl rfl ?_
            refine T.pass (Unwanted.guard rfl rfl rfl) rfl rfl ?_
            refine T.pass (Unwanted.guard rfl rfl rfl) rfl rfl ?_
            refine T.pv (PV.pickT rfl rfl rfl) Wanted.none rfl rfl ?_
            refine T.pv (PV.move rfl) Wanted.none rfl rfl ?_
            refine T.pass (Unwanted.guard rfl rfl rfl) rfl rfl ?_
            refine T.pass (Unwanted.guard rfl rfl rfl) rfl rfl ?_
            refine T.pv (PV.pickT rfl rfl rfl) Wanted.none rfl rfl ?_
            refine T.pv (PV.assign rfl) Wanted.none rfl rfl ?_
            refine T.opsNil ?_
            exact K _ _ (by repeat (first | exact trivial | refine And.intro rfl ?_)) (by repeat (first | exact List.Sublist.slnil | exact List.nil_sublist _ | exact List.Sublist.refl _ | exact List.sublist_append_left _ [] | apply List.Sublist.cons_cons | apply List.Sublist.cons | refine List.Sublist.append_left ?_ _ | refine List.sublist_append_of_sublist_right ?_))
          · rw [show (x || pW n) = true by rw [h, h1]; rfl] at K
            refine T.region ?_
            refine T.pv (PV.move rfl) Wanted.none rfl rfl ?_
            refine T.pv (PV.move rfl) Wanted.none rfl rfl ?_
            refine T.pv (PV.move rfl) (Wanted.guard rfl rfl (by assumption)) rfl rfl ?_
            refine T.pv (PV.eql rfl rfl) (Wanted.guard rfl rfl (by assumption)) rfl rfl ?_
            refine T.pv (PV.pickF rfl (by assumption) rfl) Wanted.none rfl rfl ?_
            refine T.pv (PV.move rfl) Wanted.none rfl rfl ?_
            refine T.setF (d := 86) rfl (by omega) ?_
            refine T.pv (PV.move rfl) (Wanted.guard rfl rfl rfl) rfl rfl ?_
            refine T.pv (PV.eql rfl rfl) (Wanted.guard rfl rfl rfl) rfl rfl ?_
            refine T.pv (PV.pickF rfl rfl rfl) Wanted.none rfl rfl ?_
            refine T.pv (PV.move rfl) Wanted.none rfl rfl ?_
            refine T.setT (d := 90) rfl (by omega) ?_
            refine T.pass (Unwanted.guard rfl rfl rfl) rfl rfl ?_
            refine T.pass (Unwanted.guard rfl rfl rfl) rfl rfl ?_
            refine T.pv (PV.pickT rfl rfl rfl) Wanted.none rfl rfl ?_
            refine T.pv (PV.move rfl) Wanted.none rfl rfl ?_
            refine T.pass (Unwanted.guard rfl rfl rfl) rfl rfl ?_
            refine T.pass (Unwanted.guard rfl rfl rfl) rfl rfl ?_
            refine T.pv (PV.pickT rfl rfl rfl) Wanted.none rfl rfl ?_
            refine T.pv (PV.assign rfl) Wanted.none rfl rfl ?_
            refine T.opsNil ?_
            exact K _ _ (by repeat (first | exact trivial | refine And.intro rfl ?_)) (by repeat (first | exact List.Sublist.slnil | exact List.nil_sublist _ | exact List.Sublist.refl _ | exact List.sublist_append_left _ [] | apply List.Sublist.cons_cons | apply List.Sublist.cons | refine List.Sublist.append_left ?_ _ | refine List.sublist_append_of_sublist_right ?_))
          · rw [show (x || pW n) = true by rw [h, h1]; rfl] at K
            refine T.region ?_
            refine T.pv (PV.move rfl) Wanted.none rfl rfl ?_
            refine T.pv (PV.move rfl) Wanted.none rfl rfl ?_
            refine T.pv (PV.move rfl) (Wanted.guard rfl rfl (by assumption)) rfl rfl ?_
            refine T.pv (PV.eql rfl rfl) (Wanted.guard rfl rfl (by assumption)) rfl rfl ?_
            refine T.pv (PV.pickF rfl (by assumption) rfl) Wanted.none rfl rfl ?_
            refine T.pv (PV.move rfl) Wanted.none rfl rfl ?_
            refine T.setF (d := 86) rfl (by omega) ?_
            refine T.pv (PV.move rfl) (Wanted.guard rfl rfl rfl) rfl rfl ?_
            refine T.pv (PV.eql rfl rfl) (Wanted.guard rfl rfl rfl) rfl rfl ?_
            refine T.pv (PV.pickF rfl rfl rfl) Wanted.none rfl rfl ?_
            refine T.pv (PV.move rfl) Wanted.none rfl rfl ?_
            refine T.setF (d := 90) rfl (by omega) ?_
            refine T.pv (PV.move rfl) (Wanted.guard rfl rfl rfl) rfl rfl ?_
            refine T.pv (PV.eql rfl rfl) (Wanted.guard rfl rfl rfl) rfl rfl ?_
            refine T.pv (PV.pickF rfl rfl rfl) Wanted.none rfl rfl ?_
            refine T.pv (PV.move rfl) Wanted.none rfl rfl ?_
            refine T.setT (d := 94) rfl (by omega) ?_
            refine T.pass (Unwanted.guard rfl rfl rfl) rfl rfl ?_
            refine T.pass (Unwanted.guard rfl rfl rfl) rfl rfl ?_
            refine T.pv (PV.pickT rfl rfl rfl) Wanted.none rfl rfl ?_
            refine T.pv (PV.assign rfl) Wanted.none rfl rfl ?_
            refine T.opsNil ?_
            exact K _ _ (by repeat (first | exact trivial | refine And.intro rfl ?_)) (by repeat (first | exact List.Sublist.slnil | exact List.nil_sublist _ | exact List.Sublist.refl _ | exact List.sublist_append_left _ [] | apply List.Sublist.cons_cons | apply List.Sublist.cons | refine List.Sublist.append_left ?_ _ | refine List.sublist_append_of_sublist_right ?_))
          · rw [show (x || pW n) = decide (n = 10) by rw [h, h1]; rfl] at K
            refine T.region ?_
            refine T.pv (PV.move rfl) Wanted.none rfl rfl ?_
            refine T.pv (PV.move rfl) Wanted.none rfl rfl ?_
            refine T.pv (PV.move rfl) (Wanted.guard rfl rfl (by assumption)) rfl rfl ?_
            refine T.pv (PV.eql rfl rfl) (Wanted.guard rfl rfl (by assumption)) rfl rfl ?_
            refine T.pv (PV.pickF rfl (by assumption) rfl) Wanted.none rfl rfl ?_
            refine T.pv (PV.move rfl) Wanted.none rfl rfl ?_
            refine T.setF (d := 86) rfl (by omega) ?_
            refine T.pv (PV.move rfl) (Wanted.guard rfl rfl rfl) rfl rfl ?_
            refine T.pv (PV.eql rfl rfl) (Wanted.guard rfl rfl rfl) rfl rfl ?_
            refine T.pv (PV.pickF rfl rfl rfl) Wanted.none rfl rfl ?_
            refine T.pv (PV.move rfl) Wanted.none rfl rfl ?_
            refine T.setF (d := 90) rfl (by omega) ?_
            refine T.pv (PV.move rfl) (Wanted.guard rfl rfl rfl) rfl rfl ?_
            refine T.pv (PV.eql rfl rfl) (Wanted.guard rfl rfl rfl) rfl rfl ?_
            refine T.pv (PV.pickF rfl rfl rfl) Wanted.none rfl rfl ?_
            refine T.pv (PV.move rfl) Wanted.none rfl rfl ?_
            refine T.setF (d := 94) rfl (by omega) ?_
            refine T.pv (PV.move rfl) (Wanted.guard rfl rfl rfl) rfl rfl ?_
            refine T.pv (PV.eql rfl rfl) (Wanted.guard rfl rfl rfl) rfl rfl ?_
            refine T.pv (PV.pickF rfl rfl rfl) Wanted.none rfl rfl ?_
            refine T.pv (PV.assign rfl) Wanted.none rfl rfl ?_
            refine T.opsNil ?_
            exact K _ _ (by repeat (first | exact trivial | refine And.intro rfl ?_)) (by repeat (first | exact List.Sublist.slnil | exact List.nil_sublist _ | exact List.Sublist.refl _ | exact List.sublist_append_left _ [] | apply List.Sublist.cons_cons | apply List.Sublist.cons | refine List.Sublist.append_left ?_ _ | refine List.sublist_append_of_sublist_right ?_))
          · rw [show (x || pW n) = decide (n = 10) by rw [h, Bool.false_or, decide_eq_false h4]; exact decide_eq_false (by omega)] at K
            refine T.region ?_
            refine T.pv (PV.move rfl) Wanted.none rfl rfl ?_
            refine T.pv (PV.move rfl) Wanted.none rfl rfl ?_
            refine T.pv (PV.move rfl) (Wanted.guard rfl rfl (by assumption)) rfl rfl ?_
            refine T.pv (PV.eql rfl rfl) (Wanted.guard rfl rfl (by assumption)) rfl rfl ?_
            refine T.pv (PV.pickF rfl (by assumption) rfl) Wanted.none rfl rfl ?_
            refine T.pv (PV.move rfl) Wanted.none rfl rfl ?_
            refine T.setF (d := 86) rfl (by omega) ?_
            refine T.pv (PV.move rfl) (Wanted.guard rfl rfl rfl) rfl rfl ?_
            refine T.pv (PV.eql rfl rfl) (Wanted.guard rfl rfl rfl) rfl rfl ?_
            refine T.pv (PV.pickF rfl rfl rfl) Wanted.none rfl rfl ?_
            refine T.pv (PV.move rfl) Wanted.none rfl rfl ?_
            refine T.setF (d := 90) rfl (by omega) ?_
            refine T.pv (PV.move rfl) (Wanted.guard rfl rfl rfl) rfl rfl ?_
            refine T.pv (PV.eql rfl rfl) (Wanted.guard rfl rfl rfl) rfl rfl ?_
            refine T.pv (PV.pickF rfl rfl rfl) Wanted.none rfl rfl ?_
            refine T.pv (PV.move rfl) Wanted.none rfl rfl ?_
            refine T.setF (d := 94) rfl (by omega) ?_
            refine T.pv (PV.move rfl) (Wanted.guard rfl rfl rfl) rfl rfl ?_
            refine T.pv (PV.eql rfl rfl) (Wanted.guard rfl rfl rfl) rfl rfl ?_
            refine T.pv (PV.pickF rfl rfl rfl) Wanted.none rfl rfl ?_
            refine T.pv (PV.assign rfl) Wanted.none rfl rfl ?_
            refine T.opsNil ?_
            exact K _ _ (by repeat (first | exact trivial | refine And.intro rfl ?_)) (by repeat (first | exact List.Sublist.slnil | exact List.nil_sublist _ | exact List.Sublist.refl _ | exact List.sublist_append_left _ [] | apply List.Sublist.cons_cons | apply List.Sublist.cons | refine List.Sublist.append_left ?_ _ | refine List.sublist_append_of_sublist_right ?_))
        refine T.seq ?_
        refine T.cut1 [(68, .int .i64 (j : Int)), (67, .int .i64 (a.length : Int)), (66, .slice (some ⟨ba, offa, none⟩) a.length capa), (0, .slice (some ⟨ba, offa, none⟩) a.length capa), (1, .slice (some ⟨bb, offb, none⟩) b.length capb), (5, r1), (7, r2), (9, r3), (12, .pointer (some ⟨b12, 0, none⟩)), (74, .int .i64 (k : Int)), (73, .int .i64 (b.length : Int)), (72, .slice (some ⟨bb, offb, none⟩) b.length capb), (18, .int .i64 n), (13, .bool (x || pW n)), (14, .bool (y || pC n)), (15, .bool z)] [(b12, .cells #[.int .i64 s.1, .int .i64 s.2] 23 (0, 0))] ?_ fun K => ?_
        rotate_left
        · generalize (x || pW n) = x' at K ⊢
          rcases (by cases y <;> simp <;> omega : (y = true) ∨ (y = false ∧ n = 4) ∨ (y = false ∧ n = 5) ∨ (y = false ∧ n = 7) ∨ (y = false ∧ n = 8) ∨ (y = false ∧ n ≠ 4 ∧ n ≠ 5 ∧ n ≠ 7 ∧ n ≠ 8)) with h | ⟨h, h1⟩ | ⟨h, h1⟩ | ⟨h, h1⟩ | ⟨h, h1⟩ | ⟨h, h1, h2, h3, h4⟩
          · rw [show (y || pC n) = true by rw [h]; rfl] at K
            refine T.region ?_
            refine T.pv (PV.move rfl) Wanted.none rfl rfl ?_
            refine T.pv (PV.move rfl) Wanted.none rfl rfl ?_
            refine T.pass (Unwanted.guard rfl rfl (by assumption)) rfl rfl ?_
            refine T.pass (Unwanted.guard rfl rfl (by assumption)) rfl rfl ?_
            refine T.pv (PV.pickT rfl (by assumption) rfl) Wanted.none rfl rfl ?_
            refine T.pv (PV.move rfl) Wanted.none rfl rfl ?_
            refine T.pass (Unwanted.guard rfl rfl rfl) rfl rfl ?_
            refine T.pass (Unwanted.guard rfl rfl rfl) rfl rfl ?_
            refine T.pv (PV.pickT rfl rfl rfl) Wanted.none rfl rfl ?_
            refine T.pv (PV.move rfl) Wanted.none rfl rfl ?_
            refine T.pass (Unwanted.guard rfl rfl rfl) rfl rfl ?_
            refine T.pass (Unwanted.guard rfl rfl rfl) rfl rfl ?_
            refine T.pv (PV.pickT rfl rfl rfl) Wanted.none rfl rfl ?_
            refine T.pv (PV.move rfl) Wanted.none rfl rfl ?_
            refine T.pass (Unwanted.guard rfl rfl rfl) rfl rfl ?_
            refine T.pass (Unwanted.guard rfl rfl rfl) rfl rfl ?_
            refine T.pv (PV.pickT rfl rfl rfl) Wanted.none rfl rfl ?_
            refine T.pv (PV.assign rfl) Wanted.none rfl rfl ?_
            refine T.opsNil ?_
            exact K _ _ (by repeat (first | exact trivial | refine And.intro rfl ?_)) (by repeat (first | exact List.Sublist.slnil | exact List.nil_sublist _ | exact List.Sublist.refl _ | exact List.sublist_append_left _ [] | apply List.Sublist.cons_cons | apply List.Sublist.cons | refine List.Sublist.append_left ?_ _ | refine List.sublist_append_of_sublist_right ?_))
          · rw [show (y || pC n) = true by rw [h, h1]; rfl] at K
            refine T.region ?_
            refine T.pv (PV.move rfl) Wanted.none rfl rfl ?_
            refine T.pv (PV.move rfl) Wanted.none rfl rfl ?_
            refine T.pv (PV.move rfl) (Wanted.guard rfl rfl (by assumption)) rfl rfl ?_
            refine T.pv (PV.eql rfl rfl) (Wanted.guard rfl rfl (by assumption)) rfl rfl ?_
            refine T.pv (PV.pickF rfl (by assumption) rfl) Wanted.none rfl rfl ?_
            refine T.pv (PV.move rfl) Wanted.none rfl rfl ?_
            refine T.setT (d := 103) rfl (by omega) ?_
            refine T.pass (Unwanted.guard rfl rfl rfl) rfl rfl ?_
            refine T.pass (Unwanted.guard rfl rfl rfl) rfl rfl ?_
            refine T.pv (PV.pickT rfl rfl rfl) Wanted.none rfl rfl ?_
            refine T.pv (PV.move rfl) Wanted.none rfl rfl ?_
            refine T.pass (Unwanted.guard rfl rfl rfl) rfl rfl ?_
            refine T.pass (Unwanted.guard rfl rfl rfl) rfl rfl ?_
            refine T.pv (PV.pickT rfl rfl rfl) Wanted.none rfl rfl ?_
            refine T.pv (PV.move rfl) Wanted.none rfl rfl ?_
            refine T.pass (Unwanted.guard rfl rfl rfl) rfl rfl ?_
            refine T.pass (Unwanted.guard rfl rfl rfl) rfl rfl ?_
            refine T.pv (PV.pickT rfl rfl rfl) Wanted.none rfl rfl ?_
            refine T.pv (PV.assign rfl) Wanted.none rfl rfl ?_
            refine T.opsNil ?_
            exact K _ _ (by repeat (first | exact trivial | refine And.intro rfl ?_)) (by repeat (first | exact List.Sublist.slnil | exact List.nil_sublist _ | exact List.Sublist.refl _ | exact List.sublist_append_left _ [] | apply List.Sublist.cons_cons | apply List.Sublist.cons | refine List.Sublist.append_left ?_ _ | refine List.sublist_append_of_sublist_right ?_))
          · rw [show (y || pC n) = true by rw [h, h1]; rfl] at K
            refine T.region ?_
            refine T.pv (PV.move rfl) Wanted.none rfl rfl ?_
            refine T.pv (PV.move rfl) Wanted.none rfl rfl ?_
            refine T.pv (PV.move rfl) (Wanted.guard rfl rfl (by assumption)) rfl rfl ?_
            refine T.pv (PV.eql rfl rfl) (Wanted.guard rfl rfl (by assumption)) rfl rfl ?_
            refine T.pv (PV.pickF rfl (by assumption) rfl) Wanted.none rfl rfl ?_
            refine T.pv (PV.move rfl) Wanted.none rfl rfl ?_
            refine T.setF (d := 103) rfl (by omega) ?_
            refine T.pv (PV.move rfl) (Wanted.guard rfl rfl rfl) rfl rfl ?_
            refine T.pv (PV.eql rfl rfl) (Wanted.guard rfl rfl rfl) rfl rfl ?_
            refine T.pv (PV.pickF rfl rfl rfl) Wanted.none rfl rfl ?_
            refine T.pv (PV.move rfl) Wanted.none rfl rfl ?_
            refine T.setT (d := 107) rfl (by omega) ?_
            refine T.pass (Unwanted.guard rfl rfl rfl) rfl rfl ?_
            refine T.pass (Unwanted.guard rfl rfl rfl) rfl rfl ?_
            refine T.pv (PV.pickT rfl rfl rfl) Wanted.none rfl rfl ?_
            refine T.pv (PV.move rfl) Wanted.none rfl rfl ?_
            refine T.pass (Unwanted.guard rfl rfl rfl) rfl rfl ?_
            refine T.pass (Unwanted.guard rfl rfl rfl) rfl rfl ?_
            refine T.pv (PV.pickT rfl rfl rfl) Wanted.none rfl rfl ?_
            refine T.pv (PV.assign rfl) Wanted.none rfl rfl ?_
            refine T.opsNil ?_
            exact K _ _ (by repeat (first | exact trivial | refine And.intro rfl ?_)) (by repeat (first | exact List.Sublist.slnil | exact List.nil_sublist _ | exact List.Sublist.refl _ | exact List.sublist_append_left _ [] | apply List.Sublist.cons_cons | apply List.Sublist.cons | refine List.Sublist.append_left ?_ _ | refine List.sublist_append_of_sublist_right ?_))
          · rw [show (y || pC n) = true by rw [h, h1]; rfl] at K
            refine T.region ?_
            refine T.pv (PV.move rfl) Wanted.none rfl rfl ?_
            refine T.pv (PV.move rfl) Wanted.none rfl rfl ?_
            refine T.pv (PV.move rfl) (Wanted.guard rfl rfl (by assumption)) rfl rfl ?_
            refine T.pv (PV.eql rfl rfl) (Wanted.guard rfl rfl (by assumption)) rfl rfl ?_
            refine T.pv (PV.pickF rfl (by assumption) rfl) Wanted.none rfl rfl ?_
            refine T.pv (PV.move rfl) Wanted.none rfl rfl ?_
            refine T.setF (d := 103) rfl (by omega) ?_
            refine T.pv (PV.move rfl) (Wanted.guard rfl rfl rfl) rfl rfl ?_
            refine T.pv (PV.eql rfl rfl) (Wanted.guard rfl rfl rfl) rfl rfl ?_
            refine T.pv (PV.pickF rfl rfl rfl) Wanted.none rfl rfl ?_
            refine T.pv (PV.move rfl) Wanted.none rfl rfl ?_
            refine T.setF (d := 107) rfl (by omega) ?_
            refine T.pv (PV.move rfl) (Wanted.guard rfl rfl rfl) rfl rfl ?_
            refine T.pv (PV.eql rfl rfl) (Wanted.guard rfl rfl rfl) rfl rfl ?_
            refine T.pv (PV.pickF rfl rfl rfl) Wanted.none rfl rfl ?_
            refine T.pv (PV.move rfl) Wanted.none rfl rfl ?_
            refine T.setT (d := 111) rfl (by omega) ?_
            refine T.pass (Unwanted.guard rfl rfl rfl) rfl rfl ?_
            refine T.pass (Unwanted.guard rfl rfl rfl) rfl rfl ?_
            refine T.pv (PV.pickT rfl rfl rfl) Wanted.none rfl rfl ?_
            refine T.pv (PV.assign rfl) Wanted.none rfl rfl ?_
            refine T.opsNil ?_
            exact K _ _ (by repeat (first | exact trivial | refine And.intro rfl ?_)) (by repeat (first | exact List.Sublist.slnil | exact List.nil_sublist _ | exact List.Sublist.refl _ | exact List.sublist_append_left _ [] | apply List.Sublist.cons_cons | apply List.Sublist.cons | refine List.Sublist.append_left ?_ _ | refine List.sublist_append_of_sublist_right ?_))
          · rw [show (y || pC n) = decide (n = 8) by rw [h, h1]; rfl] at K
            refine T.region ?_
            refine T.pv (PV.move rfl) Wanted.none rfl rfl ?_
            refine T.pv (PV.move rfl) Wanted.none rfl rfl ?_
            refine T.pv (PV.move rfl) (Wanted.guard rfl rfl (by assumption)) rfl rfl ?_
            refine T.pv (PV.eql rfl rfl) (Wanted.guard rfl rfl (by assumption)) rfl rfl ?_
            refine T.pv (PV.pickF rfl (by assumption) rfl) Wanted.none rfl rfl ?_
            refine T.pv (PV.move rfl) Wanted.none rfl rfl ?_
            refine T.setF (d := 103) rfl (by omega) ?_
            refine T.pv (PV.move rfl) (Wanted.guard rfl rfl rfl) rfl rfl ?_
            refine T.pv (PV.eql rfl rfl) (Wanted.guard rfl rfl rfl) rfl rfl ?_
            refine T.pv (PV.pickF rfl rfl rfl) Wanted.none rfl rfl ?_
            refine T.pv (PV.move rfl) Wanted.none rfl rfl ?_
            refine T.setF (d := 107) rfl (by omega) ?_
            refine T.pv (PV.move rfl) (Wanted.guard rfl rfl rfl) rfl rfl ?_
            refine T.pv (PV.eql rfl rfl) (Wanted.guard rfl rfl rfl) rfl rfl ?_
            refine T.pv (PV.pickF rfl rfl rfl) Wanted.none rfl rfl ?_
            refine T.pv (PV.move rfl) Wanted.none rfl rfl ?_
            refine T.setF (d := 111) rfl (by omega) ?_
            refine T.pv (PV.move rfl) (Wanted.guard rfl rfl rfl) rfl rfl ?_
            refine T.pv (PV.eql rfl rfl) (Wanted.guard rfl rfl rfl) rfl rfl ?_
            refine T.pv (PV.pickF rfl rfl rfl) Wanted.none rfl rfl ?_
            refine T.pv (PV.assign rfl) Wanted.none rfl rfl ?_
            refine T.opsNil ?_
            exact K _ _ (by repeat (first | exact trivial | refine And.intro rfl ?_)) (by repeat (first | exact List.Sublist.slnil | exact List.nil_sublist _ | exact List.Sublist.refl _ | exact List.sublist_append_left _ [] | apply List.Sublist.cons_cons | apply List.Sublist.cons | refine List.Sublist.append_left ?_ _ | refine List.sublist_append_of_sublist_right ?_))
          · rw [show (y || pC n) = decide (n = 8) by rw [h, Bool.false_or, decide_eq_false h4]; exact decide_eq_false (by omega)] at K
            refine T.region ?_
            refine T.pv (PV.move rfl) Wanted.none rfl rfl ?_
            refine T.pv (PV.move rfl) Wanted.none rfl rfl ?_
            refine T.pv (PV.move rfl) (Wanted.guard rfl rfl (by assumption)) rfl rfl ?_
            refine T.pv (PV.eql rfl rfl) (Wanted.guard rfl rfl (by assumption)) rfl rfl ?_
            refine T.pv (PV.pickF rfl (by assumption) rfl) Wanted.none rfl rfl ?_
            refine T.pv (PV.move rfl) Wanted.none rfl rfl ?_
            refine T.setF (d := 103) rfl (by omega) ?_
            refine T.pv (PV.move rfl) (Wanted.guard rfl rfl rfl) rfl rfl ?_
            refine T.pv (PV.eql rfl rfl) (Wanted.guard rfl rfl rfl) rfl rfl ?_
            refine T.pv (PV.pickF rfl rfl rfl) Wanted.none rfl rfl ?_
            refine T.pv (PV.move rfl) Wanted.none rfl rfl ?_
            refine T.setF (d := 107) rfl (by omega) ?_
            refine T.pv (PV.move rfl) (Wanted.guard rfl rfl rfl) rfl rfl ?_
            refine T.pv (PV.eql rfl rfl) (Wanted.guard rfl rfl rfl) rfl rfl ?_
            refine T.pv (PV.pickF rfl rfl rfl) Wanted.none rfl rfl ?_
            refine T.pv (PV.move rfl) Wanted.none rfl rfl ?_
            refine T.setF (d := 111) rfl (by omega) ?_
            refine T.pv (PV.move rfl) (Wanted.guard rfl rfl rfl) rfl rfl ?_
            refine T.pv (PV.eql rfl rfl) (Wanted.guard rfl rfl rfl) rfl rfl ?_
            refine T.pv (PV.pickF rfl rfl rfl) Wanted.none rfl rfl ?_
            refine T.pv (PV.assign rfl) Wanted.none rfl rfl ?_
            refine T.opsNil ?_
            exact K _ _ (by repeat (first | exact trivial | refine And.intro rfl ?_)) (by repeat (first | exact List.Sublist.slnil | exact List.nil_sublist _ | exact List.Sublist.refl _ | exact List.sublist_append_left _ [] | apply List.Sublist.cons_cons | apply List.Sublist.cons | refine List.Sublist.append_left ?_ _ | refine List.sublist_append_of_sublist_right ?_))
        refine T.cut2 [(68, .int .i64 (j : Int)), (67, .int .i64 (a.length : Int)), (66, .slice (some ⟨ba, offa, none⟩) a.length capa), (0, .slice (some ⟨ba, offa, none⟩) a.length capa), (1, .slice (some ⟨bb, offb, none⟩) b.length capb), (5, r1), (7, r2), (9, r3), (12, .pointer (some ⟨b12, 0, none⟩)), (74, .int .i64 (k : Int)), (73, .int .i64 (b.length : Int)), (72, .slice (some ⟨bb, offb, none⟩) b.length capb), (13, .bool (x || pW n)), (14, .bool (y || pC n)), (15, .bool (z || pO n))] [(b12, .cells #[.int .i64 s.1, .int .i64 s.2] 23 (0, 0))] ?_ fun K => ?_
        rotate_left
        · generalize (x || pW n) = x' at K ⊢
          generalize (y || pC n) = y' at K ⊢
          rcases (by cases z <;> simp <;> omega : (z = true) ∨ (z = false ∧ n < 3) ∨ (z = false ∧ 3 ≤ n)) with h | ⟨h, h1⟩ | ⟨h, h1⟩
          · rw [show (z || pO n) = true by rw [h]; rfl] at K
            refine T.region ?_
            refine T.pv (PV.move rfl) Wanted.none rfl rfl ?_
            refine T.pv (PV.move rfl) Wanted.none rfl rfl ?_
            refine T.pass (Unwanted.guard rfl rfl (by assumption)) rfl rfl ?_
            refine T.pass (Unwanted.guard rfl rfl (by assumption)) rfl rfl ?_
            refine T.pass (Unwanted.guard rfl rfl (by assumption)) rfl rfl ?_
            refine T.pass (Unwanted.undef rfl rfl) rfl rfl ?_
            refine T.pass (Unwanted.undef rfl rfl) rfl rfl ?_
            refine T.pass (Unwanted.guard rfl rfl (by assumption)) rfl rfl ?_
            refine T.pv (PV.pickT rfl (by assumption) rfl) Wanted.none rfl rfl ?_
            refine T.pv (PV.assign rfl) Wanted.none rfl rfl ?_
            refine T.opsNil ?_
            refine T.blkEnd ?_
            exact K _ _ (by repeat (first | exact trivial | refine And.intro rfl ?_)) (by repeat (first | exact List.Sublist.slnil | exact List.nil_sublist _ | exact List.Sublist.refl _ | exact List.sublist_append_left _ [] | apply List.Sublist.cons_cons | apply List.Sublist.cons | refine List.Sublist.append_left ?_ _ | refine List.sublist_append_of_sublist_right ?_))
          · rw [show (z || pO n) = false by rw [h, Bool.false_or]; exact decide_eq_false (by omega)] at K
            refine T.region ?_
            refine T.pv (PV.move rfl) Wanted.none rfl rfl ?_
            refine T.pv (PV.move rfl) Wanted.none rfl rfl ?_
            refine T.pv (PV.move rfl) (Wanted.guard rfl rfl (by assumption)) rfl rfl ?_
            refine T.pv (PV.geq rfl rfl) (Wanted.guard rfl rfl (by assumption)) rfl rfl ?_
            refine T.pv (PV.move rfl) (Wanted.guard rfl rfl (by assumption)) rfl rfl ?_
            refine T.setF (d := 119) rfl (by omega) ?_
            refine T.pass (Unwanted.guard rfl rfl rfl) rfl rfl ?_
            refine T.pass (Unwanted.guard rfl rfl rfl) rfl rfl ?_
            refine T.pv (PV.pickF rfl rfl rfl) (Wanted.guard rfl rfl (by assumption)) rfl rfl ?_
            refine T.pv (PV.pickF rfl (by assumption) rfl) Wanted.none rfl rfl ?_
            refine T.pv (PV.assign rfl) Wanted.none rfl rfl ?_
            refine T.opsNil ?_
            refine T.blkEnd ?_
            exact K _ _ (by repeat (first | exact trivial | refine And.intro rfl ?_)) (by repeat (first | exact List.Sublist.slnil | exact List.nil_sublist _ | exact List.Sublist.refl _ | exact List.sublist_append_left _ [] | apply List.Sublist.cons_cons | apply List.Sublist.cons | refine List.Sublist.append_left ?_ _ | refine List.sublist_append_of_sublist_right ?_))
          · rw [show (z || pO n) = decide (n ≤ 11) by rw [h, Bool.false_or]; exact decide_eq_decide.2 (by omega)] at K
            refine T.region ?_
            refine T.pv (PV.move rfl) Wanted.none rfl rfl ?_
            refine T.pv (PV.move rfl) Wanted.none rfl rfl ?_
            refine T.pv (PV.move rfl) (Wanted.guard rfl rfl (by assumption)) rfl rfl ?_
            refine T.pv (PV.geq rfl rfl) (Wanted.guard rfl rfl (by assumption)) rfl rfl ?_
            refine T.pv (PV.move rfl) (Wanted.guard rfl rfl (by assumption)) rfl rfl ?_
            refine T.setT (d := 119) rfl (by omega) ?_
            refine T.pv (PV.move rfl) (Wanted.guard rfl rfl rfl) rfl rfl ?_
            refine T.pv (PV.leq rfl rfl) (Wanted.guard rfl rfl rfl) rfl rfl ?_
            refine T.pv (PV.pickT rfl rfl rfl) (Wanted.guard rfl rfl (by assumption)) rfl rfl ?_
            refine T.pv (PV.pickF rfl (by assumption) rfl) Wanted.none rfl rfl ?_
            refine T.pv (PV.assign rfl) Wanted.none rfl rfl ?_
            refine T.opsNil ?_
            refine T.blkEnd ?_
            exact K _ _ (by repeat (first | exact trivial | refine And.intro rfl ?_)) (by repeat (first | exact List.Sublist.slnil | exact List.nil_sublist _ | exact List.Sublist.refl _ | exact List.sublist_append_left _ [] | apply List.Sublist.cons_cons | apply List.Sublist.cons | refine List.Sublist.append_left ?_ _ | refine List.sublist_append_of_sublist_right ?_))
        rw [← n1, ← n2, ← n3]
        refine T.region ?_
        refine T.pv (PV.add rfl rfl (by omega)) Wanted.none rfl rfl ?_
        refine T.pv (PV.move rfl) Wanted.none rfl rfl ?_
        refine T.opsNil ?_
        exact T.next (k + 1) (by omega) (by omega) (by repeat (first | exact trivial | refine And.intro rfl ?_)) (by repeat (first | exact List.Sublist.slnil | exact List.nil_sublist _ | exact List.Sublist.refl _ | exact List.sublist_append_left _ [] | apply List.Sublist.cons_cons | apply List.Sublist.cons | refine List.Sublist.append_left ?_ _ | refine List.sublist_append_of_sublist_right ?_)) rfl
      · rw [List.take_of_length_le (by omega)]
        generalize (b.any fun t => pW (relI s t)) = X at *
        generalize (b.any fun t => pC (relI s t)) = Y at *
        generalize (b.any fun t => pO (relI s t)) = Z at *
        have hX : (!(X == X)) = false := by cases X <;> rfl
        have hY : (!(Y == Y)) = false := by cases Y <;> rfl
        have hZ : (!(Z == Z)) = false := by cases Z <;> rfl
        refine T.seq ?_
        refine T.region ?_
        refine T.pv (PV.lss rfl rfl) Wanted.none rfl rfl ?_
        refine T.opsNil ?_
        refine T.seq ?_
        refine T.condF rfl (decide_eq_false (by omega)) ?_
        refine T.exit rfl ?_
        refine T.seq ?_
        refine T.region ?_
        refine T.pv (PV.move rfl) Wanted.none rfl rfl ?_
        refine T.pv (PV.move rfl) Wanted.none rfl rfl ?_
        refine T.pv (PV.loadAll rfl (by first | exact .fro (by assumption) | exact .own (by repeat (first | exact List.Mem.head _ | apply List.Mem.tail | apply List.mem_append_right))) (by exact rfl)) Wanted.none rfl rfl ?_
        refine T.callV Wanted.none rfl rfl (q1) ?_
        refine T.pv (PV.bneq rfl rfl) Wanted.none rfl rfl ?_
        refine T.pv (PV.move rfl) Wanted.none rfl rfl ?_
        refine T.pv (PV.move rfl) (Wanted.guard rfl rfl (by assumption)) rfl rfl ?_
        refine T.pv (PV.move rfl) (Wanted.guard rfl rfl (by assumption)) rfl rfl ?_
        refine T.pv (PV.loadAll rfl (by first | exact .fro (by assumption) | exact .own (by repeat (first | exact List.Mem.head _ | apply List.Mem.tail | apply List.mem_append_right))) (by exact rfl)) (Wanted.guard rfl rfl (by assumption)) rfl rfl ?_
        refine T.callV (Wanted.guard rfl rfl (by assumption)) rfl rfl (q2) ?_
        refine T.pv (PV.bneq rfl rfl) (Wanted.guard rfl rfl (by assumption)) rfl rfl ?_
        refine T.pv (PV.pickF rfl (by assumption) rfl) Wanted.none rfl rfl ?_
        refine T.pv (PV.move rfl) Wanted.none rfl rfl ?_
        refine T.pv (PV.move rfl) (Wanted.guard rfl rfl (by assumption)) rfl rfl ?_
        refine T.pv (PV.move rfl) (Wanted.guard rfl rfl (by assumption)) rfl rfl ?_
        refine T.pv (PV.loadAll rfl (by first | exact .fro (by assumption) | exact .own (by repeat (first | exact List.Mem.head _ | apply List.Mem.tail | apply List.mem_append_right))) (by exact rfl)) (Wanted.guard rfl rfl (by assumption)) rfl rfl ?_
        refine T.callV (Wanted.guard rfl rfl (by assumption)) rfl rfl (q3) ?_
        refine T.pv (PV.bneq rfl rfl) (Wanted.guard rfl rfl (by assumption)) rfl rfl ?_
        refine T.pv (PV.pickF rfl (by assumption) rfl) Wanted.none rfl rfl ?_
        refine T.opsNil ?_
        refine T.condF rfl (by assumption) ?_
        refine T.skip ?_
        refine T.blkEnd ?_
        refine T.region ?_
        refine T.pv (PV.add rfl rfl (by omega)) Wanted.none rfl rfl ?_
        refine T.pv (PV.move rfl) Wanted.none rfl rfl ?_
        refine T.opsNil ?_
        exact T.next (j + 1) (by omega) (by omega) (by repeat (first | exact trivial | refine And.intro rfl ?_)) (by repeat (first | exact List.Sublist.slnil | exact List.nil_sublist _ | exact List.Sublist.refl _ | exact List.sublist_append_left _ [] | apply List.Sublist.cons_cons | apply List.Sublist.cons | refine List.Sublist.append_left ?_ _ | refine List.sublist_append_of_sublist_right ?_)) rfl
    · obtain ⟨ad1, cap1, rfl⟩ := hr1.len
      obtain ⟨ad2, cap2, rfl⟩ := hr2.len
      obtain ⟨ad3, cap3, rfl⟩ := hr3.len
      refine T.seq ?_
      refine T.region ?_
      refine T.pv (PV.lss rfl rfl) Wanted.none rfl rfl ?_
      refine T.opsNil ?_
      refine T.seq ?_
      refine T.condF rfl (decide_eq_false (by omega)) ?_
      refine T.exit rfl ?_
      refine T.seq ?_
      refine T.region ?_
      refine T.pv (PV.move rfl) Wanted.none rfl rfl ?_
      refine T.pv (PV.lenSl rfl) Wanted.none rfl rfl ?_
      refine T.pv (PV.move rfl) Wanted.none rfl rfl ?_
      refine T.pv (PV.lenSl rfl) Wanted.none rfl rfl ?_
      refine T.pv (PV.leq rfl rfl) Wanted.none rfl rfl ?_
      refine T.pv (PV.move rfl) Wanted.none rfl rfl ?_
      refine T.setT (d := 150) rfl (by omega) ?_
      refine T.pv (PV.move rfl) (Wanted.guard rfl rfl rfl) rfl rfl ?_
      refine T.pv (PV.lenSl rfl) (Wanted.guard rfl rfl rfl) rfl rfl ?_
      refine T.pv (PV.move rfl) (Wanted.guard rfl rfl rfl) rfl rfl ?_
      refine T.pv (PV.lenSl rfl) (Wanted.guard rfl rfl rfl) rfl rfl ?_
      refine T.pv (PV.leq rfl rfl) (Wanted.guard rfl rfl rfl) rfl rfl ?_
      refine T.pv (PV.pickT rfl rfl rfl) Wanted.none rfl rfl ?_
      refine T.pv (PV.move rfl) Wanted.none rfl rfl ?_
      refine T.setT (d := 157) rfl (by omega) ?_
      refine T.pv (PV.move rfl) (Wanted.guard rfl rfl rfl) rfl rfl ?_
      refine T.pv (PV.lenSl rfl) (Wanted.guard rfl rfl rfl) rfl rfl ?_
      refine T.pv (PV.move rfl) (Wanted.guard rfl rfl rfl) rfl rfl ?_
      refine T.pv (PV.lenSl rfl) (Wanted.guard rfl rfl rfl) rfl rfl ?_
      refine T.pv (PV.leq rfl rfl) (Wanted.guard rfl rfl rfl) rfl rfl ?_
      refine T.pv (PV.pickT rfl rfl rfl) Wanted.none rfl rfl ?_
      refine T.pv (PV.move rfl) Wanted.none rfl rfl ?_
      refine T.setT (d := 164) rfl (by omega) ?_
      refine T.callV (Wanted.guard rfl rfl rfl) rfl rfl (hw) ?_
      refine T.pv (PV.pickT rfl rfl rfl) Wanted.none rfl rfl ?_
      refine T.pv (PV.assign rfl) Wanted.none rfl rfl ?_
      refine T.opsNil ?_
      exact T.retF (Lv.fin (RV.tmp rfl rfl) rfl)
  · refine T.pv (PV.move rfl) Wanted.none rfl rfl ?_
    refine T.pv (PV.extract rfl rfl) Wanted.none rfl rfl ?_
    refine T.pv (PV.extract rfl rfl) Wanted.none rfl rfl ?_
    refine T.pv (PV.assign rfl) Wanted.none rfl rfl ?_
    refine T.pv (PV.assign rfl) Wanted.none rfl rfl ?_
    refine T.opsNil ?_
    refine T.seq ?_
    refine T.seq ?_
    refine T.region ?_
    refine T.pv (PV.move rfl) Wanted.none rfl rfl ?_
    refine T.pv (PV.neq rfl rfl) Wanted.none rfl rfl ?_
    refine T.pv (PV.move rfl) Wanted.none rfl rfl ?_
    refine T.setT (d := 47) rfl (by omega) ?_
    refine T.pass (Unwanted.guard rfl rfl rfl) rfl rfl ?_
    refine T.pass (Unwanted.guard rfl rfl rfl) rfl rfl ?_
    refine T.pv (PV.pickT rfl rfl rfl) Wanted.none rfl rfl ?_
    refine T.pv (PV.move rfl) Wanted.none rfl rfl ?_
    refine T.pass (Unwanted.guard rfl rfl rfl) rfl rfl ?_
    refine T.pass (Unwanted.guard rfl rfl rfl) rfl rfl ?_
    refine T.pv (PV.pickT rfl rfl rfl) Wanted.none rfl rfl ?_
    refine T.opsNil ?_
    refine T.condT rfl rfl ?_
    refine T.seq ?_
    refine T.region ?_
    refine T.pv (PV.move rfl) Wanted.none rfl rfl ?_
    refine T.pv (PV.move rfl) Wanted.none rfl rfl ?_
    refine T.pv (PV.eql rfl rfl) Wanted.none rfl rfl ?_
    refine T.pv (PV.move rfl) Wanted.none rfl rfl ?_
    refine T.setT (d := 58) rfl (by omega) ?_
    refine T.pv (PV.move rfl) (Wanted.guard rfl rfl rfl) rfl rfl ?_
    refine T.pv (PV.move rfl) (Wanted.guard rfl rfl rfl) rfl rfl ?_
    refine T.pv (PV.eql rfl rfl) (Wanted.guard rfl rfl rfl) rfl rfl ?_
    refine T.pv (PV.pickT rfl rfl rfl) Wanted.none rfl rfl ?_
    refine T.pv (PV.move rfl) Wanted.none rfl rfl ?_
    refine T.setT (d := 63) rfl (by omega) ?_
    refine T.callV (Wanted.guard rfl rfl rfl) rfl rfl (hw) ?_
    refine T.pv (PV.pickT rfl rfl rfl) Wanted.none rfl rfl ?_
    refine T.pv (PV.assign rfl) Wanted.none rfl rfl ?_
    refine T.opsNil ?_
    exact T.retF (Lv.fin (RV.tmp rfl rfl) rfl)
end Go.Proofs.Ytapakgncdmmmaaa
