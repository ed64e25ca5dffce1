/- table: the statement Order. (what it leans on). -/
import Derived.Test.YthacphfjchpoaaaGreatDoorGN
namespace Go.Proofs.YthacphfjchpoaaaGreatDoor
open Go.RowKit

structure OrG where
  j : Nat
  k : Int
  H : Hp
theorem tot_one {l : List RK} {r : RK} {k : List ByteArray} : tot (l ++ [r]) k = tot l k + if r.1 = k then r.2 else 0 := by rw [tot_append, tot_cons, tot_nil]; simp
theorem texts_dec (l m : List ByteArray) (hK : l.length ≤ 100000) (H : Hp) (u v : Value) (hu : StL H u l) (hv : StL H v m) (q : Bool) (hq : decide (l = m) = q) : Fn Tryz.prog 16 #[u, v] H (fun x _ => x = .bool q) := by
  have := texts_same l m u v H hu hv hK
  rwa [hq] at this
theorem sumR_desc {l : List RK} {i : Nat} {a b : RK} (ha : (sumR l)[i]? = some a) (hb : (sumR l)[i + 1]? = some b) : ¬ a.2 < b.2 := by
  have h := List.pairwise_iff_getElem.1 (sumR_lt l) i (i + 1) (List.getElem?_eq_some_iff.1 ha).1 (List.getElem?_eq_some_iff.1 hb).1 (by omega)
  rw [(List.getElem?_eq_some_iff.1 ha).2, (List.getElem?_eq_some_iff.1 hb).2] at h
  unfold cR at h
  intro hc
  rw [if_neg (by omega), if_pos hc] at h
  omega
end Go.Proofs.YthacphfjchpoaaaGreatDoor
