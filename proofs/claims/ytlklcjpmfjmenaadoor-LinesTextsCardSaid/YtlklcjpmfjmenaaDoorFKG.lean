/- lines: the statement Make. -/
import Derived.Test.YtlklcjpmfjmenaaDoorFKC
import Derived.Test.YtlklcjpmfjmenaaDoorFKQ
import Derived.Test.YtlklcjpmfjmenaaDoorFKF
namespace Go.Proofs.YtlklcjpmfjmenaaDoor
open Go.RowKit


theorem tkL_bound {c : Cp} {a i n : Int} (h : 0 ≤ i) (hn : n ≤ 100000) : (tkL c a i (n - i).toNat).length ≤ 100000 := by rw [tkL_len]; omega
theorem lnO_B {c : Cp} {m : Mt} {t : Rg} {a i0 n : Int} (hf : FitP c m t) (hc : c.tk.length ≤ 1000) (h : 0 ≤ i0 ∧ n ≤ c.tk.length) : LnB (lnO c m t a i0 n) := by
  obtain ⟨f1, f2, f3, f4, f5, f6⟩ := hf
  exact ⟨tkL_bound h.1 (by omega), tkL_bound (by omega) (by omega), tkL_bound (by omega) (by omega)⟩
theorem zeroLn_B : LnB zeroLn := ⟨Nat.zero_le _, Nat.zero_le _, Nat.zero_le _⟩
theorem mkO_B {c : Cp} (hc : c.tk.length ≤ 1000) (hw : CpW c) (m : Mt) (a l r : Int) : LnB (mkO c m a l r).1 := by
  unfold mkO
  split
  · exact zeroLn_B
  · rename_i h
    cases hf : fitO c m with
    | none => exact zeroLn_B
    | some t =>
      have hp := fitP hw hf
      exact lnO_B hp hc ⟨by have := hp.t0; omega, by have := hp.tn; omega⟩
end Go.Proofs.YtlklcjpmfjmenaaDoor
