/- numbers as texts: strconv.Itoa by the shelf's contract. -/
import Derived.Shelf.Strconv.Itoa3
import Derived.Test.YtlklcjpmfjmenaaDoorFD0
namespace Go.Proofs.YtlklcjpmfjmenaaDoor
open Go.RowKit

/-- the library's table of powers lies in the heap -/
def PowT (H : Hp) : Prop := ∃ t fz, H 0 = some (.cells (Lib.pow10Tab.map fun z => Value.int .u64 z).toArray t fz)
theorem PowT.mono {H H' : Hp} (h : PowT H) (hl : H.le H') : PowT H' := by
  obtain ⟨t, fz, h⟩ := h
  exact ⟨t, fz, hl _ _ h⟩
def itoaB (n : Int) : ByteArray := ⟨(Lib.itoa n).toArray⟩
theorem itoa_fn (n : Int) (H : Hp) (hT : PowT H) (hn : -9223372036854775808 ≤ n ∧ n ≤ 9223372036854775807) : Fn Tryd.prog 23 #[.int .i64 n] H (fun u _ => u = .string (itoaB n)) := Fn.mk fun w hw => by
  obtain ⟨t, fz, hg⟩ := hT
  have hb := hw _ _ hg
  refine callsIn_wide.2 ((Go.Proofs.Any.strconv_Itoa (ρ := Tryd.itoaL_ren) Tryd.itoaL n hn.1 hn.2 w ?_).mono ?_)
  · unfold Lib.TabIs World.var?
    rw [Option.bind_eq_some_iff]
    exact ⟨0, by kernel_rfl, by rw [hb]⟩
  · rintro e w' ⟨rfl, k, os, rfl⟩
    have hlt : ∀ b o, w.heap[b]? = some o → b < w.heap.size := fun b o h => (Array.getElem?_eq_some_iff.1 h).1
    have hh : ∀ b, b < w.heap.size → (Go.Sort.grow (w.drewN k) os).heap[b]? = w.heap[b]? := fun b h => by
      show (w.heap ++ os)[b]? = _
      exact Array.getElem?_append_left h
    refine ⟨_, H, rfl, fun _ _ => rfl, fun b o h => (hh b (hlt b o (hw b o h))).trans (hw b o h), ⟨rfl, rfl, rfl, ?_, ?_, fun b hb _ => hh b hb⟩, rfl⟩
    · show w.heap.size ≤ (w.heap ++ os).size
      simp
    · show w.drawn ≤ w.drawn + k
      omega
end Go.Proofs.YtlklcjpmfjmenaaDoor
