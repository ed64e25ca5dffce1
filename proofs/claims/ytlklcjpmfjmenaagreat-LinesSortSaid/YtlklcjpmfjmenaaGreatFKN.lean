/- lines: the order of a sorting. -/
import Derived.Test.YtlklcjpmfjmenaaGreatFKM
namespace Go.Proofs.YtlklcjpmfjmenaaGreat
open Go.RowKit


theorem cmpBy_neg : ∀ a b : List UInt8, Lib.compareBytes b a = - Lib.compareBytes a b
  | [], [] => rfl
  | [], _ :: _ => rfl
  | _ :: _, [] => rfl
  | a :: u, b :: v => by
    have := cmpBy_neg u v
    simp only [Lib.compareBytes, UInt8.lt_iff_toNat_lt]
    by_cases h1 : a.toNat < b.toNat
    · rw [if_pos h1, if_neg (by omega), if_pos h1]; rfl
    · by_cases h2 : b.toNat < a.toNat
      · simp [h1, h2]
      · simp [h1, h2, this]
theorem cmpBy_eq : ∀ {a b : List UInt8}, Lib.compareBytes a b = 0 → a = b
  | [], [], _ => rfl
  | [], _ :: _, h => by simp [Lib.compareBytes] at h
  | _ :: _, [], h => by simp [Lib.compareBytes] at h
  | a :: u, b :: v, h => by
    simp only [Lib.compareBytes, UInt8.lt_iff_toNat_lt] at h
    by_cases h1 : a.toNat < b.toNat
    · rw [if_pos h1] at h; cases h
    · by_cases h2 : b.toNat < a.toNat
      · rw [if_neg h1, if_pos h2] at h; cases h
      · rw [if_neg h1, if_neg h2] at h
        rw [cmpBy_eq h, UInt8.toNat_inj.1 (by omega : a.toNat = b.toNat)]
theorem cmpBy_self (a : List UInt8) : Lib.compareBytes a a = 0 := by have := cmpBy_neg a a; omega
theorem bytesLess_cmp : ∀ a b : List UInt8, Op.bytesLess a b = decide (Lib.compareBytes a b < 0)
  | [], [] => rfl
  | [], _ :: _ => rfl
  | _ :: _, [] => rfl
  | a :: u, b :: v => by
    have := bytesLess_cmp u v
    simp only [Op.bytesLess, Lib.compareBytes, UInt8.lt_iff_toNat_lt, this]
    by_cases h1 : a.toNat < b.toNat
    · simp [h1]
    · by_cases h2 : b.toNat < a.toNat
      · have h3 : ¬ a = b := by rintro rfl; omega
        simp [h1, h2, h3]
      · have h3 : a = b := UInt8.toNat_inj.1 (by omega)
        subst h3
        simp
theorem cmpS_eq {a b : ByteArray} (h : cmpS a b = 0) : a = b := by
  have := cmpBy_eq h
  cases a with | mk a => cases b with | mk b =>
  simp only at this
  rw [Array.toList_inj.1 this]
theorem cmpS_self (a : ByteArray) : cmpS a a = 0 := cmpBy_self _
/-! ### by values of keys -/
def cmpF (z : Int) (f g : Ky → ByteArray) : List Ky → Int
  | [] => z
  | k :: ks => if cmpS (f k) (g k) ≠ 0 then (if k.fall then - cmpS (f k) (g k) else cmpS (f k) (g k)) else cmpF z f g ks
theorem cmpKs_map (z : Int) (f g : Ky → ByteArray) : ∀ ks : List Ky, cmpKs z ks (ks.map f) (ks.map g) = cmpF z f g ks
  | [] => rfl
  | k :: ks => by rw [List.map_cons, List.map_cons, cmpKs, cmpF, cmpKs_map z f g ks]
/-! ### matches by what they hold -/
abbrev K3 := Int × Int × List Int
def unK (t : K3) : Mt := ⟨t.1, t.2.1, .slice none 0 0, t.2.2⟩
def cmpT (c : Cp) (lb : List ByteArray) (ks : List Ky) (a b : K3) : Int := cmpM c lb ks (unK a) (unK b)
def ltT (c : Cp) (lb : List ByteArray) (ks : List Ky) (a b : K3) : Bool := decide (cmpT c lb ks a b < 0)
def sortT (c : Cp) (lb : List ByteArray) (ks : List Ky) (l : List K3) : List K3 := sortK (ltT c lb ks) l
theorem sortM_T (c : Cp) (lb : List ByteArray) (ks : List Ky) (L : List Mt) : (sortM c lb ks L).map mk3 = sortT c lb ks (L.map mk3) :=
  (sortK_map mk3 (fun a b => decide (cmpM c lb ks a b < 0)) (ltT c lb ks) L (fun x _ y _ => rfl)).symm
/-! ### what made matches and keys are -/
theorem chain_one : ∀ {l : List Rg} {p q z : Int} {x y : Rg}, chain p l q → x ∈ l → y ∈ l → inT z x = true → inT z y = true → x = y
  | [], _, _, _, _, _, _, h, _, _, _ => by cases h
  | t :: l, p, q, z, x, y, ⟨h1, h2, h3⟩, hx, hy, ix, iy => by
    simp only [inT, Bool.and_eq_true, decide_eq_true_eq] at ix iy
    rcases List.mem_cons.1 hx with rfl | hx1
    · rcases List.mem_cons.1 hy with rfl | hy1
      · rfl
      · have := chain_mem h3 hy1; omega
    · rcases List.mem_cons.1 hy with rfl | hy1
      · have := chain_mem h3 hx1; omega
      · exact chain_one h3 hx1 hy1 (z := z) (by simp [inT]; omega) (by simp [inT]; omega)
theorem fits_fitsM {c : Cp} {m : Mt} (hg : CpG c) (h : fits c.tx 1 m) (lb : List ByteArray) (hl : lb.length = 1) : fitsM c lb m = true := by
  obtain ⟨⟨x, hx, h1, h2, h3⟩, h4, h5⟩ := h
  have hin : inT m.b x = true := by simp [inT]; omega
  have hfd : c.tx.find? (inT m.b) = some x := by
    cases hf : c.tx.find? (inT m.b) with
    | none => exact absurd hin (by have := List.find?_eq_none.1 hf x hx; simpa using this)
    | some t => rw [chain_one hg.tx (List.mem_of_find?_eq_some hf) hx (List.find?_some hf) hin]
  have hb : fitB c m x = true := by
    unfold fitB
    rw [decide_eq_true h2, decide_eq_true h3]
    rw [Bool.and_true, Bool.true_and, List.all_eq_true]
    intro p hp
    have := h5 p hp
    unfold labOk
    rcases this with rfl | ⟨y, hy, k1, k2⟩
    · simp; omega
    · have := chain_mem hg.tx hy
      simp; omega
  unfold fitsM fitO
  rw [hfd]
  dsimp only
  rw [if_pos hb, decide_eq_true (by omega)]
  rfl

end Go.Proofs.YtlklcjpmfjmenaaGreat
