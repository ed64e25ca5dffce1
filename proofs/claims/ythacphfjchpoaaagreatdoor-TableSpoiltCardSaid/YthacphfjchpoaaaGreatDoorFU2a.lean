/- table: the statement Merges. (what it leans on). -/
import Derived.Test.YthacphfjchpoaaaGreatDoorGN
namespace Go.Proofs.YthacphfjchpoaaaGreatDoor
open Go.RowKit

theorem row_lens {c : Cp} {gs : List Gp} {L : List Mt} (hg : CpG c) (hfit : ∀ m ∈ L, fits c.tx 1 m) : ∀ r ∈ L.map (rowK c [bs [120]] gs), r.1.length = gs.length ∧ 1 ≤ r.2 := by
  intro r hr
  obtain ⟨m, hm, rfl⟩ := List.mem_map.1 hr
  have h := fits_okM hg (hfit m hm) [bs [120]] rfl
  unfold okM at h
  simp only [Bool.and_eq_true, Option.isSome_iff_exists] at h
  obtain ⟨⟨t, ht⟩, _⟩ := h
  refine ⟨?_, (by show (1 : Int) ≤ 1; omega)⟩
  show (keysO c [bs [120]] m gs).length = _
  rw [keysO_some ht, List.length_map]
theorem tot_le {l : List RK} (h : ∀ r ∈ l, r.2 = 1) (k : List ByteArray) : tot l k ≤ l.length := by
  induction l with
  | nil => exact Int.le_refl _
  | cons a l ih =>
    have h1 := ih fun r hr => h r (List.mem_cons_of_mem _ hr)
    have h2 := h a (List.mem_cons_self ..)
    rw [tot_cons, List.length_cons]
    split <;> omega
theorem row_small {c : Cp} {gs : List Gp} {L : List Mt} (hL : L.length ≤ 1000) {A : List Rw} (hA : A.map rwK = sumR (L.map (rowK c [bs [120]] gs))) : ∀ r ∈ A, r.n ≤ 1099511627776 := by
  intro r hr
  have h1 : rwK r ∈ A.map rwK := List.mem_map_of_mem hr
  rw [hA] at h1
  have h2 := ((sum_mem _ _).1 h1).2
  have h3 := tot_le (l := L.map (rowK c [bs [120]] gs)) (fun x hx => by obtain ⟨m, _, rfl⟩ := List.mem_map.1 hx; rfl) (rwK r).1
  rw [List.length_map] at h3
  have h4 : (rwK r).2 = r.n := rfl
  omega
end Go.Proofs.YthacphfjchpoaaaGreatDoor
