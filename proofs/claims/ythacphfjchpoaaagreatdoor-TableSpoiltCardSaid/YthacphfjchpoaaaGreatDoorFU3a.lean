/- table: the statement Totals. (what it leans on). -/
import Derived.Test.YthacphfjchpoaaaGreatDoorFU2a
import Derived.Test.YthacphfjchpoaaaGreatDoorFTM
namespace Go.Proofs.YthacphfjchpoaaaGreatDoor
open Go.RowKit

theorem cnt_ones : ∀ {l : List RK}, (∀ r ∈ l, r.2 = 1) → cntR l = l.length
  | [], _ => rfl
  | a :: l, h => by
    have h1 := cnt_ones fun r hr => h r (List.mem_cons_of_mem _ hr)
    have h2 := h a (List.mem_cons_self ..)
    unfold cntR at *
    rw [List.map_cons, List.sum_cons, List.length_cons, h1, h2]
    omega
theorem total_sum {n : Nat} (hn : 1 ≤ n ∧ n ≤ 4) {l : List RK} (h : ∀ r ∈ l, r.1.length = n ∧ 1 ≤ r.2) : totalR (sumR l) = cntR l := by
  unfold totalR
  rw [if_pos (sumR_valid hn h), cntR_sum]
theorem ones_small {G : List RK} (hG : ∀ r ∈ G, r.2 = 1) (hl : G.length ≤ 1000) {A : List Rw} (hA : A.map rwK = sumR G) : ∀ r ∈ A, r.n ≤ 1099511627776 := by
  intro r hr
  have h1 : rwK r ∈ A.map rwK := List.mem_map_of_mem hr
  rw [hA] at h1
  have h2 := ((sum_mem _ _).1 h1).2
  have h3 := tot_le hG (rwK r).1
  have h4 : (rwK r).2 = r.n := rfl
  omega
def gK (k : Nat) (r : RK) : RK := ([r.1.getD k ⟨#[]⟩], r.2)
theorem row_one {c : Cp} {gs : List Gp} {L : List Mt} (hg : CpG c) (hfit : ∀ m ∈ L, fits c.tx 1 m) {k : Nat} {g : Gp} (hk : gs[k]? = some g) : L.map (rowK c [bs [120]] [g]) = (L.map (rowK c [bs [120]] gs)).map (gK k) := by
  rw [List.map_map]
  refine List.map_congr_left fun m hm => ?_
  have h := fits_okM hg (hfit m hm) [bs [120]] rfl
  unfold okM at h
  simp only [Bool.and_eq_true, Option.isSome_iff_exists] at h
  obtain ⟨⟨t, ht⟩, _⟩ := h
  show (keysO c [bs [120]] m [g], (1 : Int)) = ([(keysO c [bs [120]] m gs).getD k ⟨#[]⟩], 1)
  rw [keysO_some ht, keysO_some ht, List.getD_eq_getElem?_getD, List.getElem?_map, hk]
  rfl
theorem marE_ok2 {n : Nat} (hn : 1 ≤ n ∧ n ≤ 4) {l : List RK} (h : ∀ r ∈ l, r.1.length = n ∧ 1 ≤ r.2) {k : Nat} (hk : k < n) : marE (sumR l) k = 0 := by
  unfold marE
  rw [if_neg]
  rw [sumR_valid hn h]
  rintro (h1 | h1 | ⟨h1, h2⟩)
  · cases h1
  · omega
  · cases hs : sumR l with
    | nil => exact h1 hs
    | cons a t =>
      have ha : a ∈ sumR l := by rw [hs]; exact List.mem_cons_self ..
      obtain ⟨y, hy, he⟩ := (dk_mem l a.1).1 ((sum_mem l a).1 ha).1
      rw [hs] at h2
      have h3 : keysN (a :: t) = a.1.length := rfl
      rw [h3, ← he, (h y hy).1] at h2
      omega
end Go.Proofs.YthacphfjchpoaaaGreatDoor
