/- regions: the statement Not. -/
import Derived.Test.YtchgfjclchhgmaaFRD
namespace Go.Proofs.Ytchgfjclchhgmaa
open Go.RowKit

/-- a filter and its negation share the matches between them -/
theorem not_split {c : Cp} {f : Fl} {m : List Mt} (hg : CpG c) (hf : flErr f = 0) (hm : ∀ x ∈ m, inTx c.tx (x.b, x.e)) :
    (m.filter (passB c [f])).length + (m.filter (passB c [⟨f.op, !f.nt, f.rg⟩])).length = m.length ∧ m.filter (passB c [f, ⟨f.op, !f.nt, f.rg⟩]) = [] := by
  have hnot : ∀ x ∈ m, holdsB c ⟨f.op, !f.nt, f.rg⟩ (x.b, x.e) = !holdsB c f (x.b, x.e) := by
    intro x hx
    rw [holdsB_in hg (hm x hx) hf, holdsB_in hg (hm x hx) (by exact hf)]
    show (someB c.rg f (x.b, x.e) != !f.nt) = !(someB c.rg f (x.b, x.e) != f.nt)
    cases someB c.rg f (x.b, x.e) <;> cases f.nt <;> rfl
  constructor
  · induction m with
    | nil => rfl
    | cons x m ih =>
      have ih := ih (fun y hy => hm y (List.mem_cons_of_mem _ hy)) (fun y hy => hnot y (List.mem_cons_of_mem _ hy))
      have h := hnot x (List.mem_cons_self ..)
      rw [List.filter_cons, List.filter_cons]
      have e1 : passB c [f] x = holdsB c f (x.b, x.e) := by simp [passB]
      have e2 : passB c [⟨f.op, !f.nt, f.rg⟩] x = !holdsB c f (x.b, x.e) := by simp [passB, h]
      rw [e1, e2]
      cases holdsB c f (x.b, x.e)
      · simp; omega
      · simp; omega
  · rw [List.filter_eq_nil_iff]
    intro x hx
    have h := hnot x hx
    simp only [passB, List.all_cons, List.all_nil, Bool.and_true, h]
    cases holdsB c f (x.b, x.e) <;> simp
end Go.Proofs.Ytchgfjclchhgmaa
