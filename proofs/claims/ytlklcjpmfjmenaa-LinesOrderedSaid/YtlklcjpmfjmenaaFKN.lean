/- lines: the order of a sorting. -/
import Derived.Test.YtlklcjpmfjmenaaFKM
namespace Go.Proofs.Ytlklcjpmfjmenaa
open Go.RowKit

theorem cmpBy_neg : ∀ a b : List UInt8, Lib.compareBytes b a = - Lib.compareBytes a b
  | [], [] => rfl
  | [], _ :: _ => rfl
  | _ :: _, [] => rfl
  | a :: u, b :: v => by
    have := cmpBy_neg u v
    simp only [Lib.compareBytes, UInt8.lt_iff_toNat_lt]
    by_cases h1 : a.toNat < b.toNat
    · rw [if_pos h1, if_neg (by omega), if_pos h1]; rfl
    · by_cases h2 : b.toNat < a.toNat
      · simp [h1, h2]
      · simp [h1, h2, this]
theorem cmpBy_eq : ∀ {a b : List UInt8}, Lib.compareBytes a b = 0 → a = b
  | [], [], _ => rfl
  | [], _ :: _, h => by simp [Lib.compareBytes] at h
  | _ :: _, [], h => by simp [Lib.compareBytes] at h
  | a :: u, b :: v, h => by
    simp only [Lib.compareBytes, UInt8.lt_iff_toNat_lt] at h
    by_cases h1 : a.toNat < b.toNat
    · rw [if_pos h1] at h; cases h
    · by_cases h2 : b.toNat < a.toNat
      · rw [if_neg h1, if_pos h2] at h; cases h
      · rw [if_neg h1, if_neg h2] at h
        rw [cmpBy_eq h, UInt8.toNat_inj.1 (by omega : a.toNat = b.toNat)]
theorem cmpBy_self (a : List UInt8) : Lib.compareBytes a a = 0 := by have := cmpBy_neg a a; omega
theorem cmpBy_trans : ∀ a b c : List UInt8, Lib.compareBytes a b < 0 → Lib.compareBytes b c < 0 → Lib.compareBytes a c < 0
  | [], [], _, h, _ => by simp [Lib.compareBytes] at h
  | [], _ :: _, [], _, h => by simp [Lib.compareBytes] at h
  | [], _ :: _, _ :: _, _, _ => by simp [Lib.compareBytes]
  | _ :: _, [], _, h, _ => by simp [Lib.compareBytes] at h
  | _ :: _, _ :: _, [], _, h => by simp [Lib.compareBytes] at h
  | a :: u, b :: v, c :: x, h1, h2 => by
    simp only [Lib.compareBytes, UInt8.lt_iff_toNat_lt] at h1 h2 ⊢
    by_cases a1 : a.toNat < b.toNat
    · by_cases a2 : b.toNat < c.toNat
      · rw [if_pos (by omega)]; omega
      · rw [if_neg a2] at h2
        by_cases a3 : c.toNat < b.toNat
        · rw [if_pos a3] at h2; omega
        · rw [if_pos (by omega)]; omega
    · rw [if_neg a1] at h1
      by_cases a3 : b.toNat < a.toNat
      · rw [if_pos a3] at h1; omega
      · rw [if_neg a3] at h1
        by_cases a2 : b.toNat < c.toNat
        · rw [if_pos (by omega)]; omega
        · rw [if_neg a2] at h2
          by_cases a4 : c.toNat < b.toNat
          · rw [if_pos a4] at h2; omega
          · rw [if_neg a4] at h2
            rw [if_neg (by omega), if_neg (by omega)]
            exact cmpBy_trans u v x h1 h2
theorem bytesLess_cmp : ∀ a b : List UInt8, Op.bytesLess a b = decide (Lib.compareBytes a b < 0)
  | [], [] => rfl
  | [], _ :: _ => rfl
  | _ :: _, [] => rfl
  | a :: u, b :: v => by
    have := bytesLess_cmp u v
    simp only [Op.bytesLess, Lib.compareBytes, UInt8.lt_iff_toNat_lt, this]
    by_cases h1 : a.toNat < b.toNat
    · simp [h1]
    · by_cases h2 : b.toNat < a.toNat
      · have h3 : ¬ a = b := by rintro rfl; omega
        simp [h1, h2, h3]
      · have h3 : a = b := UInt8.toNat_inj.1 (by omega)
        subst h3
        simp
theorem cmpS_neg (a b : ByteArray) : cmpS b a = - cmpS a b := cmpBy_neg _ _
theorem cmpS_eq {a b : ByteArray} (h : cmpS a b = 0) : a = b := by
  have := cmpBy_eq h
  cases a with | mk a => cases b with | mk b =>
  simp only at this
  rw [Array.toList_inj.1 this]
theorem cmpS_self (a : ByteArray) : cmpS a a = 0 := cmpBy_self _
theorem cmpS_trans {a b c : ByteArray} (h1 : cmpS a b < 0) (h2 : cmpS b c < 0) : cmpS a c < 0 := cmpBy_trans _ _ _ h1 h2
/-! ### by values of keys -/
def cmpF (z : Int) (f g : Ky → ByteArray) : List Ky → Int
  | [] => z
  | k :: ks => if cmpS (f k) (g k) ≠ 0 then (if k.fall then - cmpS (f k) (g k) else cmpS (f k) (g k)) else cmpF z f g ks
theorem cmpKs_map (z : Int) (f g : Ky → ByteArray) : ∀ ks : List Ky, cmpKs z ks (ks.map f) (ks.map g) = cmpF z f g ks
  | [] => rfl
  | k :: ks => by rw [List.map_cons, List.map_cons, cmpKs, cmpF, cmpKs_map z f g ks]
theorem cmpF_neg (z : Int) (f g : Ky → ByteArray) : ∀ ks, cmpF (-z) g f ks = - cmpF z f g ks
  | [] => rfl
  | k :: ks => by
    rw [cmpF, cmpF, cmpF_neg z f g ks, cmpS_neg (f k) (g k)]
    by_cases h : cmpS (f k) (g k) = 0
    · rw [if_neg (by omega), if_neg (by omega)]
    · rw [if_pos (by omega), if_pos h]; split <;> omega
theorem cmpF_zero {z : Int} {f g : Ky → ByteArray} : ∀ {ks}, cmpF z f g ks = 0 → z = 0
  | [], h => h
  | k :: ks, h => by
    rw [cmpF] at h
    by_cases h0 : cmpS (f k) (g k) = 0
    · rw [if_neg (by omega)] at h; exact cmpF_zero h
    · rw [if_pos h0] at h; split at h <;> omega
theorem cmpF_trans {z1 z2 z3 : Int} {f g h : Ky → ByteArray} (hz : z1 < 0 → z2 < 0 → z3 < 0) : ∀ {ks}, cmpF z1 f g ks < 0 → cmpF z2 g h ks < 0 → cmpF z3 f h ks < 0
  | [], h1, h2 => hz h1 h2
  | k :: ks, h1, h2 => by
    rw [cmpF] at h1 h2 ⊢
    by_cases a1 : cmpS (f k) (g k) = 0
    · rw [if_neg (by omega)] at h1
      rw [cmpS_eq a1]
      by_cases a2 : cmpS (g k) (h k) = 0
      · rw [if_neg (by omega)] at h2 ⊢
        exact cmpF_trans hz h1 h2
      · rw [if_pos a2] at h2 ⊢
        exact h2
    · rw [if_pos a1] at h1
      by_cases a2 : cmpS (g k) (h k) = 0
      · rw [← cmpS_eq a2, if_pos a1]; exact h1
      · rw [if_pos a2] at h2
        cases hf : k.fall
        · rw [hf] at h1 h2
          have := cmpS_trans (a := f k) (b := g k) (c := h k) (by simpa using h1) (by simpa using h2)
          rw [if_pos (by omega)]; simpa using this
        · rw [hf] at h1 h2
          have e1 := cmpS_neg (f k) (g k)
          have e2 := cmpS_neg (g k) (h k)
          have e3 := cmpS_neg (f k) (h k)
          have := cmpS_trans (a := h k) (b := g k) (c := f k) (by simp at h2; omega) (by simp at h1; omega)
          rw [if_pos (by omega)]; simp; omega
/-! ### matches by what they hold -/
abbrev K3 := Int × Int × List Int
def unK (t : K3) : Mt := ⟨t.1, t.2.1, .slice none 0 0, t.2.2⟩
def cmpT (c : Cp) (lb : List ByteArray) (ks : List Ky) (a b : K3) : Int := cmpM c lb ks (unK a) (unK b)
theorem cmpT_F (c : Cp) (lb : List ByteArray) (ks : List Ky) (a b : K3) : cmpT c lb ks a b = cmpF (cmpL (keyM (unK a)) (keyM (unK b))) (valO c lb (unK a)) (valO c lb (unK b)) ks := by
  unfold cmpT cmpM valsO
  rw [cmpKs_map]
theorem cmpT_neg (c : Cp) (lb : List ByteArray) (ks : List Ky) (a b : K3) : cmpT c lb ks b a = - cmpT c lb ks a b := by
  rw [cmpT_F, cmpT_F, cmpL_neg (keyM (unK a)) (keyM (unK b)), cmpF_neg]
theorem cmpT_eq {c : Cp} {lb : List ByteArray} {ks : List Ky} {a b : K3} (h : cmpT c lb ks a b = 0) : a = b := by
  rw [cmpT_F] at h
  have h := (cmpL_eq _ _).1 (cmpF_zero h)
  obtain ⟨a1, a2, a3⟩ := a
  obtain ⟨b1, b2, b3⟩ := b
  simp only [keyM, unK, List.cons.injEq] at h
  obtain ⟨rfl, rfl, rfl⟩ := h
  rfl
theorem cmpT_trans {c : Cp} {lb : List ByteArray} {ks : List Ky} {a b d : K3} (h1 : cmpT c lb ks a b < 0) (h2 : cmpT c lb ks b d < 0) : cmpT c lb ks a d < 0 := by
  rw [cmpT_F] at *
  exact cmpF_trans (fun h1 h2 => cmpL_trans _ _ _ h1 h2) h1 h2
def ltT (c : Cp) (lb : List ByteArray) (ks : List Ky) (a b : K3) : Bool := decide (cmpT c lb ks a b < 0)
theorem ltT_ord (c : Cp) (lb : List ByteArray) (ks : List Ky) : Ord (ltT c lb ks) where
  asym x y h := by
    have e := cmpT_neg c lb ks x y
    simp only [ltT, decide_eq_true_eq, decide_eq_false_iff_not] at h ⊢
    omega
  trans x y z h1 h2 := by
    simp only [ltT, decide_eq_false_iff_not] at h1 h2 ⊢
    intro h
    have e1 := cmpT_neg c lb ks y z
    by_cases h0 : cmpT c lb ks z y = 0
    · rw [cmpT_eq h0] at h; exact h1 h
    · exact h1 (cmpT_trans (b := z) (by omega) h)
def sortT (c : Cp) (lb : List ByteArray) (ks : List Ky) (l : List K3) : List K3 := sortK (ltT c lb ks) l
theorem sortM_T (c : Cp) (lb : List ByteArray) (ks : List Ky) (L : List Mt) : (sortM c lb ks L).map mk3 = sortT c lb ks (L.map mk3) :=
  (sortK_map mk3 (fun a b => decide (cmpM c lb ks a b < 0)) (ltT c lb ks) L (fun x _ y _ => rfl)).symm
theorem sortT_perm {c : Cp} {lb : List ByteArray} {ks : List Ky} {l m : List K3} (h : l.Perm m) : sortT c lb ks l = sortT c lb ks m := by
  refine List.Perm.eq_of_pairwise (le := fun a b => ltT c lb ks b a = false) (fun a b _ _ h1 h2 => ?_) (sortK_sorted (ltT_ord c lb ks) l) (sortK_sorted (ltT_ord c lb ks) m) (((sortK_perm _ l).trans h).trans (sortK_perm _ m).symm)
  simp only [ltT, decide_eq_false_iff_not] at h1 h2
  have e := cmpT_neg c lb ks a b
  exact cmpT_eq (c := c) (lb := lb) (ks := ks) (by omega)
/-! ### what made matches and keys are -/
theorem chain_one : ∀ {l : List Rg} {p q z : Int} {x y : Rg}, chain p l q → x ∈ l → y ∈ l → inT z x = true → inT z y = true → x = y
  | [], _, _, _, _, _, _, h, _, _, _ => by cases h
  | t :: l, p, q, z, x, y, ⟨h1, h2, h3⟩, hx, hy, ix, iy => by
    simp only [inT, Bool.and_eq_true, decide_eq_true_eq] at ix iy
    rcases List.mem_cons.1 hx with rfl | hx1
    · rcases List.mem_cons.1 hy with rfl | hy1
      · rfl
      · have := chain_mem h3 hy1; omega
    · rcases List.mem_cons.1 hy with rfl | hy1
      · have := chain_mem h3 hx1; omega
      · exact chain_one h3 hx1 hy1 (z := z) (by simp [inT]; omega) (by simp [inT]; omega)
theorem fits_fitsM {c : Cp} {m : Mt} (hg : CpG c) (h : fits c.tx 1 m) (lb : List ByteArray) (hl : lb.length = 1) : fitsM c lb m = true := by
  obtain ⟨⟨x, hx, h1, h2, h3⟩, h4, h5⟩ := h
  have hin : inT m.b x = true := by simp [inT]; omega
  have hfd : c.tx.find? (inT m.b) = some x := by
    cases hf : c.tx.find? (inT m.b) with
    | none => exact absurd hin (by have := List.find?_eq_none.1 hf x hx; simpa using this)
    | some t => rw [chain_one hg.tx (List.mem_of_find?_eq_some hf) hx (List.find?_some hf) hin]
  have hb : fitB c m x = true := by
    unfold fitB
    rw [decide_eq_true h2, decide_eq_true h3]
    rw [Bool.and_true, Bool.true_and, List.all_eq_true]
    intro p hp
    have := h5 p hp
    unfold labOk
    rcases this with rfl | ⟨y, hy, k1, k2⟩
    · simp; omega
    · have := chain_mem hg.tx hy
      simp; omega
  unfold fitsM fitO
  rw [hfd]
  dsimp only
  rw [if_pos hb, decide_eq_true (by omega)]
  rfl
end Go.Proofs.Ytlklcjpmfjmenaa
