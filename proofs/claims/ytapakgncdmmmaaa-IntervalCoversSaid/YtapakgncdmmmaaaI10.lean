/- interval: the reference's Choose; the choices agree. -/
import Derived.Test.YtapakgncdmmmaaaI9
namespace Go.Proofs.Ytapakgncdmmmaaa
open Go.RowKit

def selC (kind : Int) (s t : Sp) : Bool := if kind = 1 then decide (t.1 ≤ s.1 ∧ s.2 ≤ t.2) else if kind = 2 then decide (s.1 ≤ t.1 ∧ t.2 ≤ s.2) else decide (s.1 < t.2 ∧ t.1 < s.2)
def chooseL (kind : Int) (a b : List Sp) : List Sp := a.foldl (fun acc s => if b.any (selC kind s) then insS acc s else acc) []
theorem any_snoc {l : List Sp} {p : Sp → Bool} {i : Nat} {x : Sp} (hx : l[i]? = some x) : (l.take (i + 1)).any p = ((l.take i).any p || p x) := by
  rw [List.take_add_one, hx, List.any_append]; simp
theorem chooseL_len (kind : Int) (b a : List Sp) : ∀ acc : List Sp, (a.foldl (fun acc s => if b.any (selC kind s) then insS acc s else acc) acc).length ≤ acc.length + a.length := by
  induction a with
  | nil => intro acc; simp
  | cons s t ih =>
    intro acc
    rw [List.foldl_cons, List.length_cons]
    have h1 := ih (if b.any (selC kind s) then insS acc s else acc)
    have h2 : (if b.any (selC kind s) then insS acc s else acc).length ≤ acc.length + 1 := by
      split
      · exact insS_len _ _
      · omega
    omega
theorem choose_spec (kind : Int) (b a : List Sp) : ∀ acc : List Sp, acc.Pairwise ltS → (a.foldl (fun acc s => if b.any (selC kind s) then insS acc s else acc) acc).Pairwise ltS ∧ ∀ x, x ∈ a.foldl (fun acc s => if b.any (selC kind s) then insS acc s else acc) acc ↔ x ∈ acc ∨ (x ∈ a ∧ b.any (selC kind x) = true) := by
  induction a with
  | nil => intro acc h; exact ⟨h, fun x => by simp⟩
  | cons s t ih =>
    intro acc h
    rw [List.foldl_cons]
    by_cases hs : b.any (selC kind s) = true
    · rw [if_pos hs]
      obtain ⟨h1, h2⟩ := ih _ (insS_sorted s acc h)
      refine ⟨h1, fun x => ?_⟩
      rw [h2 x, insS_mem, List.mem_cons]
      constructor
      · rintro ((h3 | h3) | ⟨h3, h4⟩)
        · exact .inl h3
        · subst h3; exact .inr ⟨.inl rfl, hs⟩
        · exact .inr ⟨.inr h3, h4⟩
      · rintro (h3 | ⟨h3 | h3, h4⟩)
        · exact .inl (.inl h3)
        · exact .inl (.inr h3)
        · exact .inr ⟨h3, h4⟩
    · rw [if_neg hs]
      obtain ⟨h1, h2⟩ := ih _ h
      refine ⟨h1, fun x => ?_⟩
      rw [h2 x, List.mem_cons]
      constructor
      · rintro (h3 | ⟨h3, h4⟩)
        · exact .inl h3
        · exact .inr ⟨.inr h3, h4⟩
      · rintro (h3 | ⟨h3 | h3, h4⟩)
        · exact .inl h3
        · subst h3; exact absurd h4 hs
        · exact .inr ⟨h3, h4⟩
theorem choose_eq (kind : Int) (a b : List Sp) (p : Sp → Bool) (hp : ∀ s ∈ a, p s = b.any (selC kind s)) : (normS a).filter p = chooseL kind a b := by
  obtain ⟨h1, h2⟩ := choose_spec kind b a [] List.Pairwise.nil
  refine sorted_ext ltS_sto _ _ ((normS_sorted a).filter p) h1 fun x => ?_
  rw [List.mem_filter, normS_mem]
  show _ ↔ x ∈ List.foldl _ [] a
  rw [h2 x]
  constructor
  · rintro ⟨h3, h4⟩; exact .inr ⟨h3, by rw [← hp x h3]; exact h4⟩
  · rintro (h3 | ⟨h3, h4⟩)
    · cases h3
    · exact ⟨h3, by rw [hp x h3]; exact h4⟩
theorem within_eq (a b : List Sp) : (normS a).filter (inW (normS b)) = chooseL 1 a b := choose_eq 1 a b _ fun s _ => by
  rw [inW, any_congr (normS_mem b)]; rfl
theorem containing_eq (a b : List Sp) : (normS a).filter (inC (normS b)) = chooseL 2 a b := choose_eq 2 a b _ fun s _ => by
  rw [inC, any_congr (normS_mem b)]; rfl
theorem overlapping_eq (a b : List Sp) (ha : ∀ s ∈ a, s.1 < s.2) (hb : ∀ s ∈ b, s.1 < s.2) : (normS a).filter (inO (covL (normS b))) = chooseL 3 a b := choose_eq 3 a b _ fun s hs => by
  rw [inO_cov (fun t ht => hb t ((normS_mem b t).1 ht)) (sortedS_fst (normS_sorted b)) s (ha s hs), inO, any_congr (normS_mem b)]; rfl
structure ChG where
  i : Nat
  v : Value
  H : Hp
set_option maxHeartbeats 8000000 in
theorem choose_fn (a b : List Sp) (kind : Int) (u v : Value) (H : Hp) (hu : SpL H u a) (hv : SpL H v b) (ha : a.length ≤ maxLen) (hb : b.length ≤ maxLen) : Fn Try.prog 24 #[u, v, .int .i64 kind] H (ResL (chk2 a b) (chooseL kind a b)) := by
  obtain ⟨ada, capa, rfl⟩ := hu.len
  obtain ⟨adb, capb, rfl⟩ := hv.len
  refine Fn.of_T (vs := [.slice ada a.length capa, .slice adb b.length capb, .int .i64 kind]) Try.func24 rfl rfl fun w => ?_
  have c1 := refCheck_fn a _ H hu ha
  have c2 := refCheck_fn b _ H hv hb
  by_cases hca : chk1 a = 0
  · have h2 : chk2 a b = chk1 b := by unfold chk2; rw [if_neg (by omega)]
    by_cases hcb : chk1 b = 0
    · obtain ⟨hla, hoka⟩ := chk1_zero hca
      obtain ⟨hlb, hokb⟩ := chk1_zero hcb
      rw [hca] at c1
      rw [hcb] at c2 h2
      rw [h2]
      refine T.seq ?_
      refine T.region ?_
      refine T.pv (PV.assign rfl) Wanted.none rfl rfl ?_
      refine T.pv (PV.assign rfl) Wanted.none rfl rfl ?_
      refine T.opsNil ?_
      refine T.seq ?_
      refine T.seq ?_
      refine T.region ?_
      refine T.pv (PV.move rfl) Wanted.none rfl rfl ?_
      refine T.callV Wanted.none rfl rfl (c1) ?_
      refine T.pv (PV.assign rfl) Wanted.none rfl rfl ?_
      refine T.opsNil ?_
      refine T.seq ?_
      refine T.region ?_
      refine T.pv (PV.move rfl) Wanted.none rfl rfl ?_
      refine T.pv (PV.neq rfl rfl) Wanted.none rfl rfl ?_
      refine T.opsNil ?_
      refine T.condF rfl rfl ?_
      refine T.skip ?_
      refine T.seq ?_
      refine T.seq ?_
      refine T.region ?_
      refine T.pv (PV.move rfl) Wanted.none rfl rfl ?_
      refine T.callV Wanted.none rfl rfl (c2) ?_
      refine T.pv (PV.assign rfl) Wanted.none rfl rfl ?_
      refine T.opsNil ?_
      refine T.seq ?_
      refine T.region ?_
      refine T.pv (PV.move rfl) Wanted.none rfl rfl ?_
      refine T.pv (PV.neq rfl rfl) Wanted.none rfl rfl ?_
      refine T.opsNil ?_
      refine T.condF rfl rfl ?_
      refine T.skip ?_
      refine T.seq ?_
      refine T.region ?_
      refine T.pv (PV.assign rfl) Wanted.none rfl rfl ?_
      refine T.opsNil ?_
      refine T.seq ?_
      refine T.seq ?_
      refine T.region ?_
      refine T.pv (PV.move rfl) Wanted.none rfl rfl ?_
      refine T.pv (PV.lenSl rfl) Wanted.none rfl rfl ?_
      refine T.pv (PV.move rfl) Wanted.none rfl rfl ?_
      refine T.opsNil ?_
      refine T.block ?_
      refine T.loop (γ := ChG) (fun g => g.i ≤ a.length ∧ H.le g.H ∧ SpL g.H g.v ((a.take g.i).foldl (fun acc s => if b.any (selC kind s) then insS acc s else acc) []))
        (fun g => [(1, .slice adb b.length capb), (2, .int .i64 kind), (28, .int .i64 (g.i : Int)), (27, .int .i64 (a.length : Int)), (26, .slice ada a.length capa), (10, g.v)])
        (fun _ => []) (fun g => g.H) (fun g => a.length - g.i) ⟨0, .slice none 0 0, H⟩ ⟨by simp, Hp.le.refl _, SlR.empty⟩ (by repeat (first | exact trivial | refine And.intro rfl ?_)) (by repeat (first | exact List.Sublist.slnil | exact List.nil_sublist _ | exact List.Sublist.refl _ | exact List.sublist_append_left _ [] | apply List.Sublist.cons_cons | apply List.Sublist.cons | refine List.Sublist.append_left ?_ _ | refine List.sublist_append_of_sublist_right ?_)) rfl ?_
      rintro ⟨i, vc, Hk⟩ ⟨i1, i2, i3⟩
      dsimp only at i1 i2 i3 ⊢
      have hcl := chooseL_len kind b (a.take i) []
      have htl : (a.take i).length ≤ i := List.length_take_le _ _
      simp only [List.length_nil] at hcl
      by_cases hi : i < a.length
      · obtain ⟨s, hs⟩ : ∃ x, a[i]? = some x := ⟨_, List.getElem?_eq_getElem hi⟩
        have huk := hu.mono i2
        have hvk := hv.mono i2
        obtain ⟨ba, offa, rfl, hsuba⟩ := huk.span hs
        refine T.seq ?_
        refine T.region ?_
        refine T.pv (PV.lss rfl rfl) Wanted.none rfl rfl ?_
        refine T.opsNil ?_
        refine T.seq ?_
        refine T.condT rfl (decide_eq_true (by omega)) ?_
        refine T.skip ?_
        refine T.seq ?_
        refine T.block ?_
        refine T.seq ?_
        refine T.region ?_
        refine T.pv (PV.indexAddr rfl rfl (by omega)) Wanted.none rfl rfl ?_
        refine T.pv (PV.loadSubAll rfl (by assumption) (by exact rfl)) Wanted.none rfl rfl ?_
        (refine T.alloc Wanted.none rfl ?_; intro b12)
        refine T.storeA Wanted.none rfl rfl (by repeat (first | exact trivial | refine And.intro rfl ?_)) (by exact rfl) (by repeat (first | exact Upd.head | apply Upd.tail | apply Upd.app)) (by repeat (first | exact Splice.nil | apply Splice.cons | apply Splice.skip)) ?_
        refine T.opsNil ?_
        refine T.seq ?_
        refine T.region ?_
        refine T.pv (PV.assign rfl) Wanted.none rfl rfl ?_
        refine T.opsNil ?_
        refine T.seq ?_
        refine T.seq ?_
        refine T.region ?_
        refine T.pv (PV.move rfl) Wanted.none rfl rfl ?_
        refine T.pv (PV.lenSl rfl) Wanted.none rfl rfl ?_
        refine T.pv (PV.move rfl) Wanted.none rfl rfl ?_
        refine T.opsNil ?_
        refine T.block ?_
        refine T.loop (γ := Nat) (fun j => j ≤ b.length)
          (fun j => [(1, .slice adb b.length capb), (2, .int .i64 kind), (28, .int .i64 (i : Int)), (27, .int .i64 (a.length : Int)), (26, .slice (some ⟨ba, offa, none⟩) a.length capa), (10, vc), (12, .pointer (some ⟨b12, 0, none⟩)), (34, .int .i64 (j : Int)), (33, .int .i64 (b.length : Int)), (32, .slice adb b.length capb), (13, .bool ((b.take j).any (selC kind s)))])
          (fun _ => [(b12, .cells #[.int .i64 s.1, .int .i64 s.2] 23 (0, 0))]) (fun _ => Hk) (fun j => b.length - j) 0 (by omega) (by repeat (first | exact trivial | refine And.intro rfl ?_)) (by repeat (first | exact List.Sublist.slnil | exact List.nil_sublist _ | exact List.Sublist.refl _ | exact List.sublist_append_left _ [] | apply List.Sublist.cons_cons | apply List.Sublist.cons | refine List.Sublist.append_left ?_ _ | refine List.sublist_append_of_sublist_right ?_)) rfl ?_
        intro j j1
        by_cases hj : j < b.length
        · obtain ⟨t, ht⟩ : ∃ x, b[j]? = some x := ⟨_, List.getElem?_eq_getElem hj⟩
          obtain ⟨bb, offb, rfl, hsubb⟩ := hvk.span ht
          have hsn := any_snoc (p := selC kind s) ht
          by_cases k1 : kind = 1
          · have hsel : selC kind s t = decide (t.1 ≤ s.1 ∧ s.2 ≤ t.2) := by unfold selC; rw [if_pos k1]
            cases hok : (b.take j).any (selC kind s) with
            | true =>
              rw [hok, Bool.true_or] at hsn
              refine T.seq ?_
              refine T.region ?_
              refine T.pv (PV.lss rfl rfl) Wanted.none rfl rfl ?_
              refine T.opsNil ?_
              refine T.seq ?_
              refine T.condT rfl (decide_eq_true (by omega)) ?_
              refine T.skip ?_
              refine T.seq ?_
              refine T.block ?_
              refine T.seq ?_
              refine T.region ?_
              refine T.pv (PV.indexAddr rfl rfl (by omega)) Wanted.none rfl rfl ?_
              refine T.pv (PV.loadSubAll rfl (by assumption) (by exact rfl)) Wanted.none rfl rfl ?_
              (refine T.alloc Wanted.none rfl ?_; intro b15)
              refine T.storeA Wanted.none rfl rfl (by repeat (first | exact trivial | refine And.intro rfl ?_)) (by exact rfl) (by repeat (first | exact Upd.head | apply Upd.tail | apply Upd.app)) (by repeat (first | exact Splice.nil | apply Splice.cons | apply Splice.skip)) ?_
              refine T.opsNil ?_
              refine T.seq ?_
              refine T.region ?_
              refine T.pv (PV.move rfl) Wanted.none rfl rfl ?_
              refine T.opsNil ?_
              refine T.block ?_
              refine T.seq ?_
              refine T.region ?_
              refine T.pv (PV.eql rfl rfl) Wanted.none rfl rfl ?_
              refine T.pv (PV.assign rfl) Wanted.none rfl rfl ?_
              refine T.opsNil ?_
              refine T.condT rfl (decide_eq_true (by omega)) ?_
              refine T.region ?_
              refine T.pv (PV.move rfl) Wanted.none rfl rfl ?_
              refine T.pv (PV.move rfl) Wanted.none rfl rfl ?_
              refine T.pass (Unwanted.guard rfl rfl rfl) rfl rfl ?_
              refine T.pass (Unwanted.guard rfl rfl rfl) rfl rfl ?_
              refine T.pass (Unwanted.guard rfl rfl rfl) rfl rfl ?_
              refine T.pv (PV.pickT rfl rfl rfl) Wanted.none rfl rfl ?_
              refine T.pv (PV.assign rfl) Wanted.none rfl rfl ?_
              refine T.opsNil ?_
              refine T.blkEnd ?_
              refine T.blkEnd ?_
              refine T.region ?_
              refine T.pv (PV.add rfl rfl (by omega)) Wanted.none rfl rfl ?_
              refine T.pv (PV.move rfl) Wanted.none rfl rfl ?_
              refine T.opsNil ?_
              rw [← hsn]
              exact T.next (j + 1) (by omega) (by omega) (by repeat (first | exact trivial | refine And.intro rfl ?_)) (by repeat (first | exact List.Sublist.slnil | exact List.nil_sublist _ | exact List.Sublist.refl _ | exact List.sublist_append_left _ [] | apply List.Sublist.cons_cons | apply List.Sublist.cons | refine List.Sublist.append_left ?_ _ | refine List.sublist_append_of_sublist_right ?_)) rfl
            | false =>
              rw [hok, Bool.false_or, hsel] at hsn
              have cc := contains_fn t s Hk
              unfold spV at cc
              refine T.seq ?_
              refine T.region ?_
              refine T.pv (PV.lss rfl rfl) Wanted.none rfl rfl ?_
              refine T.opsNil ?_
              refine T.seq ?_
              refine T.condT rfl (decide_eq_true (by omega)) ?_
              refine T.skip ?_
              refine T.seq ?_
              refine T.block ?_
              refine T.seq ?_
              refine T.region ?_
              refine T.pv (PV.indexAddr rfl rfl (by omega)) Wanted.none rfl rfl ?_
              refine T.pv (PV.loadSubAll rfl (by assumption) (by exact rfl)) Wanted.none rfl rfl ?_
              (refine T.alloc Wanted.none rfl ?_; intro b15)
              refine T.storeA Wanted.none rfl rfl (by repeat (first | exact trivial | refine And.intro rfl ?_)) (by exact rfl) (by repeat (first | exact Upd.head | apply Upd.tail | apply Upd.app)) (by repeat (first | exact Splice.nil | apply Splice.cons | apply Splice.skip)) ?_
              refine T.opsNil ?_
              refine T.seq ?_
              refine T.region ?_
              refine T.pv (PV.move rfl) Wanted.none rfl rfl ?_
              refine T.opsNil ?_
              refine T.block ?_
              refine T.seq ?_
              refine T.region ?_
              refine T.pv (PV.eql rfl rfl) Wanted.none rfl rfl ?_
              refine T.pv (PV.assign rfl) Wanted.none rfl rfl ?_
              refine T.opsNil ?_
              refine T.condT rfl (decide_eq_true (by omega)) ?_
              refine T.region ?_
              refine T.pv (PV.move rfl) Wanted.none rfl rfl ?_
              refine T.pv (PV.move rfl) Wanted.none rfl rfl ?_
              refine T.pv (PV.loadAll rfl (by first | exact .fro (by assumption) | exact .own (by repeat (first | exact List.Mem.head _ | apply List.Mem.tail | apply List.mem_append_right))) (by exact rfl)) (Wanted.guard rfl rfl rfl) rfl rfl ?_
              refine T.pv (PV.loadAll rfl (by first | exact .fro (by assumption) | exact .own (by repeat (first | exact List.Mem.head _ | apply List.Mem.tail | apply List.mem_append_right))) (by exact rfl)) (Wanted.guard rfl rfl rfl) rfl rfl ?_
              refine T.callV (Wanted.guard rfl rfl rfl) rfl rfl (cc) ?_
              refine T.pv (PV.pickF rfl rfl rfl) Wanted.none rfl rfl ?_
              refine T.pv (PV.assign rfl) Wanted.none rfl rfl ?_
              refine T.opsNil ?_
              refine T.blkEnd ?_
              refine T.blkEnd ?_
              refine T.region ?_
              refine T.pv (PV.add rfl rfl (by omega)) Wanted.none rfl rfl ?_
              refine T.pv (PV.move rfl) Wanted.none rfl rfl ?_
              refine T.opsNil ?_
              rw [← hsn]
              exact T.next (j + 1) (by omega) (by omega) (by repeat (first | exact trivial | refine And.intro rfl ?_)) (by repeat (first | exact List.Sublist.slnil | exact List.nil_sublist _ | exact List.Sublist.refl _ | exact List.sublist_append_left _ [] | apply List.Sublist.cons_cons | apply List.Sublist.cons | refine List.Sublist.append_left ?_ _ | refine List.sublist_append_of_sublist_right ?_)) rfl
          · by_cases k2 : kind = 2
            · have hsel : selC kind s t = decide (s.1 ≤ t.1 ∧ t.2 ≤ s.2) := by unfold selC; rw [if_neg k1, if_pos k2]
              cases hok : (b.take j).any (selC kind s) with
              | true =>
                rw [hok, Bool.true_or] at hsn
                refine T.seq ?_
                refine T.region ?_
                refine T.pv (PV.lss rfl rfl) Wanted.none rfl rfl ?_
                refine T.opsNil ?_
                refine T.seq ?_
                refine T.condT rfl (decide_eq_true (by omega)) ?_
                refine T.skip ?_
                refine T.seq ?_
                refine T.block ?_
                refine T.seq ?_
                refine T.region ?_
                refine T.pv (PV.indexAddr rfl rfl (by omega)) Wanted.none rfl rfl ?_
                refine T.pv (PV.loadSubAll rfl (by assumption) (by exact rfl)) Wanted.none rfl rfl ?_
                (refine T.alloc Wanted.none rfl ?_; intro b15)
                refine T.storeA Wanted.none rfl rfl (by repeat (first | exact trivial | refine And.intro rfl ?_)) (by exact rfl) (by repeat (first | exact Upd.head | apply Upd.tail | apply Upd.app)) (by repeat (first | exact Splice.nil | apply Splice.cons | apply Splice.skip)) ?_
                refine T.opsNil ?_
                refine T.seq ?_
                refine T.region ?_
                refine T.pv (PV.move rfl) Wanted.none rfl rfl ?_
                refine T.opsNil ?_
                refine T.block ?_
                refine T.seq ?_
                refine T.region ?_
                refine T.pv (PV.eql rfl rfl) Wanted.none rfl rfl ?_
                refine T.pv (PV.assign rfl) Wanted.none rfl rfl ?_
                refine T.opsNil ?_
                refine T.condF rfl (decide_eq_false (by omega)) ?_
                refine T.seq ?_
                refine T.region ?_
                refine T.pv (PV.eql rfl rfl) Wanted.none rfl rfl ?_
                refine T.pv (PV.assign rfl) Wanted.none rfl rfl ?_
                refine T.opsNil ?_
                refine T.condT rfl (decide_eq_true (by omega)) ?_
                refine T.region ?_
                refine T.pv (PV.move rfl) Wanted.none rfl rfl ?_
                refine T.pv (PV.move rfl) Wanted.none rfl rfl ?_
                refine T.pass (Unwanted.guard rfl rfl rfl) rfl rfl ?_
                refine T.pass (Unwanted.guard rfl rfl rfl) rfl rfl ?_
                refine T.pass (Unwanted.guard rfl rfl rfl) rfl rfl ?_
                refine T.pv (PV.pickT rfl rfl rfl) Wanted.none rfl rfl ?_
                refine T.pv (PV.assign rfl) Wanted.none rfl rfl ?_
                refine T.opsNil ?_
                refine T.blkEnd ?_
                refine T.blkEnd ?_
                refine T.region ?_
                refine T.pv (PV.add rfl rfl (by omega)) Wanted.none rfl rfl ?_
                refine T.pv (PV.move rfl) Wanted.none rfl rfl ?_
                refine T.opsNil ?_
                rw [← hsn]
                exact T.next (j + 1) (by omega) (by omega) (by repeat (first | exact trivial | refine And.intro rfl ?_)) (by repeat (first | exact List.Sublist.slnil | exact List.nil_sublist _ | exact List.Sublist.refl _ | exact List.sublist_append_left _ [] | apply List.Sublist.cons_cons | apply List.Sublist.cons | refine List.Sublist.append_left ?_ _ | refine List.sublist_append_of_sublist_right ?_)) rfl
              | false =>
                rw [hok, Bool.false_or, hsel] at hsn
                have cc := contains_fn s t Hk
                unfold spV at cc
                refine T.seq ?_
                refine T.region ?_
                refine T.pv (PV.lss rfl rfl) Wanted.none rfl rfl ?_
                refine T.opsNil ?_
                refine T.seq ?_
                refine T.condT rfl (decide_eq_true (by omega)) ?_
                refine T.skip ?_
                refine T.seq ?_
                refine T.block ?_
                refine T.seq ?_
                refine T.region ?_
                refine T.pv (PV.indexAddr rfl rfl (by omega)) Wanted.none rfl rfl ?_
                refine T.pv (PV.loadSubAll rfl (by assumption) (by exact rfl)) Wanted.none rfl rfl ?_
                (refine T.alloc Wanted.none rfl ?_; intro b15)
                refine T.storeA Wanted.none rfl rfl (by repeat (first | exact trivial | refine And.intro rfl ?_)) (by exact rfl) (by repeat (first | exact Upd.head | apply Upd.tail | apply Upd.app)) (by repeat (first | exact Splice.nil | apply Splice.cons | apply Splice.skip)) ?_
                refine T.opsNil ?_
                refine T.seq ?_
                refine T.region ?_
                refine T.pv (PV.move rfl) Wanted.none rfl rfl ?_
                refine T.opsNil ?_
                refine T.block ?_
                refine T.seq ?_
                refine T.region ?_
                refine T.pv (PV.eql rfl rfl) Wanted.none rfl rfl ?_
                refine T.pv (PV.assign rfl) Wanted.none rfl rfl ?_
                refine T.opsNil ?_
                refine T.condF rfl (decide_eq_false (by omega)) ?_
                refine T.seq ?_
                refine T.region ?_
                refine T.pv (PV.eql rfl rfl) Wanted.none rfl rfl ?_
                refine T.pv (PV.assign rfl) Wanted.none rfl rfl ?_
                refine T.opsNil ?_
                refine T.condT rfl (decide_eq_true (by omega)) ?_
                refine T.region ?_
                refine T.pv (PV.move rfl) Wanted.none rfl rfl ?_
                refine T.pv (PV.move rfl) Wanted.none rfl rfl ?_
                refine T.pv (PV.loadAll rfl (by first | exact .fro (by assumption) | exact .own (by repeat (first | exact List.Mem.head _ | apply List.Mem.tail | apply List.mem_append_right))) (by exact rfl)) (Wanted.guard rfl rfl rfl) rfl rfl ?_
                refine T.pv (PV.loadAll rfl (by first | exact .fro (by assumption) | exact .own (by repeat (first | exact List.Mem.head _ | apply List.Mem.tail | apply List.mem_append_right))) (by exact rfl)) (Wanted.guard rfl rfl rfl) rfl rfl ?_
                refine T.callV (Wanted.guard rfl rfl rfl) rfl rfl (cc) ?_
                refine T.pv (PV.pickF rfl rfl rfl) Wanted.none rfl rfl ?_
                refine T.pv (PV.assign rfl) Wanted.none rfl rfl ?_
                refine T.opsNil ?_
                refine T.blkEnd ?_
                refine T.blkEnd ?_
                refine T.region ?_
                refine T.pv (PV.add rfl rfl (by omega)) Wanted.none rfl rfl ?_
                refine T.pv (PV.move rfl) Wanted.none rfl rfl ?_
                refine T.opsNil ?_
                rw [← hsn]
                exact T.next (j + 1) (by omega) (by omega) (by repeat (first | exact trivial | refine And.intro rfl ?_)) (by repeat (first | exact List.Sublist.slnil | exact List.nil_sublist _ | exact List.Sublist.refl _ | exact List.sublist_append_left _ [] | apply List.Sublist.cons_cons | apply List.Sublist.cons | refine List.Sublist.append_left ?_ _ | refine List.sublist_append_of_sublist_right ?_)) rfl
            · have hsel : selC kind s t = decide (s.1 < t.2 ∧ t.1 < s.2) := by unfold selC; rw [if_neg k1, if_neg k2]
              cases hok : (b.take j).any (selC kind s) with
              | true =>
                rw [hok, Bool.true_or] at hsn
                refine T.seq ?_
                refine T.region ?_
                refine T.pv (PV.lss rfl rfl) Wanted.none rfl rfl ?_
                refine T.opsNil ?_
                refine T.seq ?_
                refine T.condT rfl (decide_eq_true (by omega)) ?_
                refine T.skip ?_
                refine T.seq ?_
                refine T.block ?_
                refine T.seq ?_
                refine T.region ?_
                refine T.pv (PV.indexAddr rfl rfl (by omega)) Wanted.none rfl rfl ?_
                refine T.pv (PV.loadSubAll rfl (by assumption) (by exact rfl)) Wanted.none rfl rfl ?_
                (refine T.alloc Wanted.none rfl ?_; intro b15)
                refine T.storeA Wanted.none rfl rfl (by repeat (first | exact trivial | refine And.intro rfl ?_)) (by exact rfl) (by repeat (first | exact Upd.head | apply Upd.tail | apply Upd.app)) (by repeat (first | exact Splice.nil | apply Splice.cons | apply Splice.skip)) ?_
                refine T.opsNil ?_
                refine T.seq ?_
                refine T.region ?_
                refine T.pv (PV.move rfl) Wanted.none rfl rfl ?_
                refine T.opsNil ?_
                refine T.block ?_
                refine T.seq ?_
                refine T.region ?_
                refine T.pv (PV.eql rfl rfl) Wanted.none rfl rfl ?_
                refine T.pv (PV.assign rfl) Wanted.none rfl rfl ?_
                refine T.opsNil ?_
                refine T.condF rfl (decide_eq_false (by omega)) ?_
                refine T.seq ?_
                refine T.region ?_
                refine T.pv (PV.eql rfl rfl) Wanted.none rfl rfl ?_
                refine T.pv (PV.assign rfl) Wanted.none rfl rfl ?_
                refine T.opsNil ?_
                refine T.condF rfl (decide_eq_false (by omega)) ?_
                refine T.region ?_
                refine T.pv (PV.move rfl) Wanted.none rfl rfl ?_
                refine T.pv (PV.move rfl) Wanted.none rfl rfl ?_
                refine T.pass (Unwanted.guard rfl rfl rfl) rfl rfl ?_
                refine T.pass (Unwanted.guard rfl rfl rfl) rfl rfl ?_
                refine T.pass (Unwanted.guard rfl rfl rfl) rfl rfl ?_
                refine T.pv (PV.pickT rfl rfl rfl) Wanted.none rfl rfl ?_
                refine T.pv (PV.assign rfl) Wanted.none rfl rfl ?_
                refine T.opsNil ?_
                refine T.blkEnd ?_
                refine T.blkEnd ?_
                refine T.region ?_
                refine T.pv (PV.add rfl rfl (by omega)) Wanted.none rfl rfl ?_
                refine T.pv (PV.move rfl) Wanted.none rfl rfl ?_
                refine T.opsNil ?_
                rw [← hsn]
                exact T.next (j + 1) (by omega) (by omega) (by repeat (first | exact trivial | refine And.intro rfl ?_)) (by repeat (first | exact List.Sublist.slnil | exact List.nil_sublist _ | exact List.Sublist.refl _ | exact List.sublist_append_left _ [] | apply List.Sublist.cons_cons | apply List.Sublist.cons | refine List.Sublist.append_left ?_ _ | refine List.sublist_append_of_sublist_right ?_)) rfl
              | false =>
                rw [hok, Bool.false_or, hsel] at hsn
                have cc := overlap_fn s t Hk
                unfold spV at cc
                refine T.seq ?_
                refine T.region ?_
                refine T.pv (PV.lss rfl rfl) Wanted.none rfl rfl ?_
                refine T.opsNil ?_
                refine T.seq ?_
                refine T.condT rfl (decide_eq_true (by omega)) ?_
                refine T.skip ?_
                refine T.seq ?_
                refine T.block ?_
                refine T.seq ?_
                refine T.region ?_
                refine T.pv (PV.indexAddr rfl rfl (by omega)) Wanted.none rfl rfl ?_
                refine T.pv (PV.loadSubAll rfl (by assumption) (by exact rfl)) Wanted.none rfl rfl ?_
                (refine T.alloc Wanted.none rfl ?_; intro b15)
                refine T.storeA Wanted.none rfl rfl (by repeat (first | exact trivial | refine And.intro rfl ?_)) (by exact rfl) (by repeat (first | exact Upd.head | apply Upd.tail | apply Upd.app)) (by repeat (first | exact Splice.nil | apply Splice.cons | apply Splice.skip)) ?_
                refine T.opsNil ?_
                refine T.seq ?_
                refine T.region ?_
                refine T.pv (PV.move rfl) Wanted.none rfl rfl ?_
                refine T.opsNil ?_
                refine T.block ?_
                refine T.seq ?_
                refine T.region ?_
                refine T.pv (PV.eql rfl rfl) Wanted.none rfl rfl ?_
                refine T.pv (PV.assign rfl) Wanted.none rfl rfl ?_
                refine T.opsNil ?_
                refine T.condF rfl (decide_eq_false (by omega)) ?_
                refine T.seq ?_
                refine T.region ?_
                refine T.pv (PV.eql rfl rfl) Wanted.none rfl rfl ?_
                refine T.pv (PV.assign rfl) Wanted.none rfl rfl ?_
                refine T.opsNil ?_
                refine T.condF rfl (decide_eq_false (by omega)) ?_
                refine T.region ?_
                refine T.pv (PV.move rfl) Wanted.none rfl rfl ?_
                refine T.pv (PV.move rfl) Wanted.none rfl rfl ?_
                refine T.pv (PV.loadAll rfl (by first | exact .fro (by assumption) | exact .own (by repeat (first | exact List.Mem.head _ | apply List.Mem.tail | apply List.mem_append_right))) (by exact rfl)) (Wanted.guard rfl rfl rfl) rfl rfl ?_
                refine T.pv (PV.loadAll rfl (by first | exact .fro (by assumption) | exact .own (by repeat (first | exact List.Mem.head _ | apply List.Mem.tail | apply List.mem_append_right))) (by exact rfl)) (Wanted.guard rfl rfl rfl) rfl rfl ?_
                refine T.callV (Wanted.guard rfl rfl rfl) rfl rfl (cc) ?_
                refine T.pv (PV.pickF rfl rfl rfl) Wanted.none rfl rfl ?_
                refine T.pv (PV.assign rfl) Wanted.none rfl rfl ?_
                refine T.opsNil ?_
                refine T.blkEnd ?_
                refine T.blkEnd ?_
                refine T.region ?_
                refine T.pv (PV.add rfl rfl (by omega)) Wanted.none rfl rfl ?_
                refine T.pv (PV.move rfl) Wanted.none rfl rfl ?_
                refine T.opsNil ?_
                rw [← hsn]
                exact T.next (j + 1) (by omega) (by omega) (by repeat (first | exact trivial | refine And.intro rfl ?_)) (by repeat (first | exact List.Sublist.slnil | exact List.nil_sublist _ | exact List.Sublist.refl _ | exact List.sublist_append_left _ [] | apply List.Sublist.cons_cons | apply List.Sublist.cons | refine List.Sublist.append_left ?_ _ | refine List.sublist_append_of_sublist_right ?_)) rfl
        · rw [List.take_of_length_le (by omega)]
          have hstep : (a.take (i + 1)).foldl (fun acc s => if b.any (selC kind s) then insS acc s else acc) [] = (if b.any (selC kind s) then insS ((a.take i).foldl (fun acc s => if b.any (selC kind s) then insS acc s else acc) []) s else (a.take i).foldl (fun acc s => if b.any (selC kind s) then insS acc s else acc) []) := by
            rw [List.take_add_one, hs, Option.toList_some, List.foldl_append]; rfl
          cases hok : b.any (selC kind s) with
          | true =>
            rw [hok, if_pos rfl] at hstep
            refine T.seq ?_
            refine T.region ?_
            refine T.pv (PV.lss rfl rfl) Wanted.none rfl rfl ?_
            refine T.opsNil ?_
            refine T.seq ?_
            refine T.condF rfl (decide_eq_false (by omega)) ?_
            refine T.exit rfl ?_
            refine T.seq ?_
            refine T.region ?_
            refine T.pv (PV.move rfl) Wanted.none rfl rfl ?_
            refine T.opsNil ?_
            refine T.condT rfl rfl ?_
            refine T.region ?_
            refine T.pv (PV.move rfl) Wanted.none rfl rfl ?_
            refine T.pv (PV.loadAll rfl (by first | exact .fro (by assumption) | exact .own (by repeat (first | exact List.Mem.head _ | apply List.Mem.tail | apply List.mem_append_right))) (by exact rfl)) Wanted.none rfl rfl ?_
            refine T.call Wanted.none rfl rfl (insert_fn _ s vc Hk i3 (by omega)) ?_
            intro v2 H2 hle2 hv2
            refine T.pv (PV.assign rfl) Wanted.none rfl rfl ?_
            refine T.opsNil ?_
            refine T.blkEnd ?_
            refine T.region ?_
            refine T.pv (PV.add rfl rfl (by omega)) Wanted.none rfl rfl ?_
            refine T.pv (PV.move rfl) Wanted.none rfl rfl ?_
            refine T.opsNil ?_
            refine T.next ⟨i + 1, v2, H2⟩ ⟨by dsimp only; omega, i2.trans hle2, ?_⟩ (by dsimp only; omega) (by repeat (first | exact trivial | refine And.intro rfl ?_)) (by repeat (first | exact List.Sublist.slnil | exact List.nil_sublist _ | exact List.Sublist.refl _ | exact List.sublist_append_left _ [] | apply List.Sublist.cons_cons | apply List.Sublist.cons | refine List.Sublist.append_left ?_ _ | refine List.sublist_append_of_sublist_right ?_)) rfl
            show SlR H2 2 v2 _ _
            rw [hstep]; exact hv2
          | false =>
            rw [hok, if_neg (by simp)] at hstep
            refine T.seq ?_
            refine T.region ?_
            refine T.pv (PV.lss rfl rfl) Wanted.none rfl rfl ?_
            refine T.opsNil ?_
            refine T.seq ?_
            refine T.condF rfl (decide_eq_false (by omega)) ?_
            refine T.exit rfl ?_
            refine T.seq ?_
            refine T.region ?_
            refine T.pv (PV.move rfl) Wanted.none rfl rfl ?_
            refine T.opsNil ?_
            refine T.condF rfl rfl ?_
            refine T.skip ?_
            refine T.blkEnd ?_
            refine T.region ?_
            refine T.pv (PV.add rfl rfl (by omega)) Wanted.none rfl rfl ?_
            refine T.pv (PV.move rfl) Wanted.none rfl rfl ?_
            refine T.opsNil ?_
            refine T.next ⟨i + 1, vc, Hk⟩ ⟨by dsimp only; omega, i2, ?_⟩ (by dsimp only; omega) (by repeat (first | exact trivial | refine And.intro rfl ?_)) (by repeat (first | exact List.Sublist.slnil | exact List.nil_sublist _ | exact List.Sublist.refl _ | exact List.sublist_append_left _ [] | apply List.Sublist.cons_cons | apply List.Sublist.cons | refine List.Sublist.append_left ?_ _ | refine List.sublist_append_of_sublist_right ?_)) rfl
            show SlR Hk 2 vc _ _
            rw [hstep]; exact i3
      · rw [List.take_of_length_le (by omega)] at i3
        refine T.seq ?_
        refine T.region ?_
        refine T.pv (PV.lss rfl rfl) Wanted.none rfl rfl ?_
        refine T.opsNil ?_
        refine T.seq ?_
        refine T.condF rfl (decide_eq_false (by omega)) ?_
        refine T.exit rfl ?_
        refine T.seq ?_
        refine T.region ?_
        refine T.pv (PV.move rfl) Wanted.none rfl rfl ?_
        refine T.pv (PV.assign rfl) Wanted.none rfl rfl ?_
        refine T.pv (PV.assign rfl) Wanted.none rfl rfl ?_
        refine T.opsNil ?_
        exact T.retF (Lv.fin (RV.tmp2 rfl rfl rfl) (ResL.ok rfl i3))
    · rw [h2]
      rw [hca] at c1
      refine T.seq ?_
      refine T.region ?_
      refine T.pv (PV.assign rfl) Wanted.none rfl rfl ?_
      refine T.pv (PV.assign rfl) Wanted.none rfl rfl ?_
      refine T.opsNil ?_
      refine T.seq ?_
      refine T.seq ?_
      refine T.region ?_
      refine T.pv (PV.move rfl) Wanted.none rfl rfl ?_
      refine T.callV Wanted.none rfl rfl (c1) ?_
      refine T.pv (PV.assign rfl) Wanted.none rfl rfl ?_
      refine T.opsNil ?_
      refine T.seq ?_
      refine T.region ?_
      refine T.pv (PV.move rfl) Wanted.none rfl rfl ?_
      refine T.pv (PV.neq rfl rfl) Wanted.none rfl rfl ?_
      refine T.opsNil ?_
      refine T.condF rfl rfl ?_
      refine T.skip ?_
      refine T.seq ?_
      refine T.seq ?_
      refine T.region ?_
      refine T.pv (PV.move rfl) Wanted.none rfl rfl ?_
      refine T.callV Wanted.none rfl rfl (c2) ?_
      refine T.pv (PV.assign rfl) Wanted.none rfl rfl ?_
      refine T.opsNil ?_
      refine T.seq ?_
      refine T.region ?_
      refine T.pv (PV.move rfl) Wanted.none rfl rfl ?_
      refine T.pv (PV.neq rfl rfl) Wanted.none rfl rfl ?_
      refine T.opsNil ?_
      refine T.condT rfl (decide_eq_true (by omega)) ?_
      refine T.seq ?_
      refine T.region ?_
      refine T.pv (PV.move rfl) Wanted.none rfl rfl ?_
      refine T.pv (PV.assign rfl) Wanted.none rfl rfl ?_
      refine T.pv (PV.assign rfl) Wanted.none rfl rfl ?_
      refine T.opsNil ?_
      exact T.retF (Lv.fin (RV.tmp2 rfl rfl rfl) (ResL.err hcb))
  · have h2 : chk2 a b = chk1 a := by unfold chk2; rw [if_pos hca]
    rw [h2]
    refine T.seq ?_
    refine T.region ?_
    refine T.pv (PV.assign rfl) Wanted.none rfl rfl ?_
    refine T.pv (PV.assign rfl) Wanted.none rfl rfl ?_
    refine T.opsNil ?_
    refine T.seq ?_
    refine T.seq ?_
    refine T.region ?_
    refine T.pv (PV.move rfl) Wanted.none rfl rfl ?_
    refine T.callV Wanted.none rfl rfl (c1) ?_
    refine T.pv (PV.assign rfl) Wanted.none rfl rfl ?_
    refine T.opsNil ?_
    refine T.seq ?_
    refine T.region ?_
    refine T.pv (PV.move rfl) Wanted.none rfl rfl ?_
    refine T.pv (PV.neq rfl rfl) Wanted.none rfl rfl ?_
    refine T.opsNil ?_
    refine T.condT rfl (decide_eq_true (by omega)) ?_
    refine T.seq ?_
    refine T.region ?_
    refine T.pv (PV.move rfl) Wanted.none rfl rfl ?_
    refine T.pv (PV.assign rfl) Wanted.none rfl rfl ?_
    refine T.pv (PV.assign rfl) Wanted.none rfl rfl ?_
    refine T.opsNil ?_
    exact T.retF (Lv.fin (RV.tmp2 rfl rfl rfl) (ResL.err hca))
end Go.Proofs.Ytapakgncdmmmaaa
