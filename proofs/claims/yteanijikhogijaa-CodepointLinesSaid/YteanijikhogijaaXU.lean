/- Plain: the units of a string, as the model decodes them. -/
import GoSem.Core.Utf8
import Derived.WalkKit
namespace Go.Proofs.Yteanijikhogijaa

structure U where
  r : Nat
  at_ : Nat
  sz : Nat
  deriving DecidableEq

/-- The model's decoding, of bytes and of which of them continue. -/
def dec (b0 b1 b2 b3 : Nat) (c1 c2 c3 : Bool) : Nat × Nat :=
  if b0 < 0x80 then (b0, 1)
  else if b0 / 32 == 6 && c1 then
    if (b0 % 32) * 64 + b1 % 64 ≥ 0x80 then ((b0 % 32) * 64 + b1 % 64, 2) else (0xFFFD, 1)
  else if b0 / 16 == 14 && c1 && c2 then
    if (b0 % 16) * 4096 + (b1 % 64) * 64 + b2 % 64 ≥ 0x800 && Utf8.valid ((b0 % 16) * 4096 + (b1 % 64) * 64 + b2 % 64 : Nat) then ((b0 % 16) * 4096 + (b1 % 64) * 64 + b2 % 64, 3) else (0xFFFD, 1)
  else if b0 / 8 == 30 && c1 && c2 && c3 then
    if (b0 % 8) * 262144 + (b1 % 64) * 4096 + (b2 % 64) * 64 + b3 % 64 ≥ 0x10000 && Utf8.valid ((b0 % 8) * 262144 + (b1 % 64) * 4096 + (b2 % 64) * 64 + b3 % 64 : Nat) then ((b0 % 8) * 262144 + (b1 % 64) * 4096 + (b2 % 64) * 64 + b3 % 64, 4) else (0xFFFD, 1)
  else (0xFFFD, 1)
/-- byte k from i on continues -/
def cont (s : ByteArray) (i k : Nat) : Bool := i + k < s.size && (s.get! (i + k)).toNat / 64 == 2
theorem decode_eq (s : ByteArray) (i : Nat) : Utf8.decode s i = dec (s.get! i).toNat (s.get! (i + 1)).toNat (s.get! (i + 2)).toNat (s.get! (i + 3)).toNat (cont s i 1) (cont s i 2) (cont s i 3) := rfl
theorem valid_nat {n : Nat} (h : Utf8.valid (n : Int) = true) : n ≤ 1114111 ∧ (n < 55296 ∨ 57344 ≤ n) := by
  unfold Utf8.valid at h
  rw [Bool.or_eq_true, Bool.and_eq_true, Bool.and_eq_true] at h
  rcases h with ⟨_, h⟩ | ⟨h, h'⟩
  · have := of_decide_eq_true h
    omega
  · have := of_decide_eq_true h
    have := of_decide_eq_true h'
    omega
theorem dec_width (b0 b1 b2 b3 : Nat) (c1 c2 c3 : Bool) (h0 : b0 < 256) :
    (dec b0 b1 b2 b3 c1 c2 c3).1 ≤ 1114111 ∧ ((dec b0 b1 b2 b3 c1 c2 c3).2 = 1 ∨ ((dec b0 b1 b2 b3 c1 c2 c3).2 = 2 ∧ c1 = true) ∨ ((dec b0 b1 b2 b3 c1 c2 c3).2 = 3 ∧ c1 = true ∧ c2 = true) ∨ ((dec b0 b1 b2 b3 c1 c2 c3).2 = 4 ∧ c1 = true ∧ c2 = true ∧ c3 = true)) := by
  unfold dec
  split
  · exact ⟨by show b0 ≤ _; omega, .inl rfl⟩
  · split
    · rename_i h
      rw [Bool.and_eq_true] at h
      split
      · exact ⟨by show _ ≤ _; omega, .inr (.inl ⟨rfl, h.2⟩)⟩
      · exact ⟨by show 65533 ≤ _; omega, .inl rfl⟩
    · split
      · rename_i h
        rw [Bool.and_eq_true, Bool.and_eq_true] at h
        split
        · exact ⟨by show _ ≤ _; omega, .inr (.inr (.inl ⟨rfl, h.1.2, h.2⟩))⟩
        · exact ⟨by show 65533 ≤ _; omega, .inl rfl⟩
      · split
        · rename_i h
          rw [Bool.and_eq_true, Bool.and_eq_true, Bool.and_eq_true] at h
          split
          · rename_i h'
            rw [Bool.and_eq_true] at h'
            exact ⟨(valid_nat h'.2).1, .inr (.inr (.inr ⟨rfl, h.1.1.2, h.1.2, h.2⟩))⟩
          · exact ⟨by show 65533 ≤ _; omega, .inl rfl⟩
        · exact ⟨by show 65533 ≤ _; omega, .inl rfl⟩
theorem cont_lt {s : ByteArray} {i k : Nat} (h : cont s i k = true) : i + k < s.size := by
  unfold cont at h
  rw [Bool.and_eq_true] at h
  exact of_decide_eq_true h.1
theorem decode_width (s : ByteArray) (p : Nat) (h : p < s.size) : 1 ≤ (Utf8.decode s p).2 ∧ p + (Utf8.decode s p).2 ≤ s.size ∧ (Utf8.decode s p).1 ≤ 1114111 := by
  rw [decode_eq]
  obtain ⟨h1, h2⟩ := dec_width (s.get! p).toNat (s.get! (p + 1)).toNat (s.get! (p + 2)).toNat (s.get! (p + 3)).toNat (cont s p 1) (cont s p 2) (cont s p 3) (UInt8.toNat_lt _)
  refine ⟨?_, ?_, h1⟩
  · rcases h2 with h2 | ⟨h2, _⟩ | ⟨h2, _⟩ | ⟨h2, _⟩ <;> omega
  · rcases h2 with h2 | ⟨h2, h3⟩ | ⟨h2, _, h3⟩ | ⟨h2, _, _, h3⟩
    · omega
    all_goals (have := cont_lt h3; omega)

def unitsFrom (s : ByteArray) : Nat → Nat → List U
  | 0, _ => []
  | n + 1, p => if p < s.size then ⟨(Utf8.decode s p).1, p, (Utf8.decode s p).2⟩ :: unitsFrom s n (p + (Utf8.decode s p).2) else []
def units (s : ByteArray) : List U := unitsFrom s s.size 0

def posL (at_ : Int) : List U → Int → Int → Int × Int
  | [], line, col => (line, col)
  | u :: l, line, col => if at_ ≤ (u.at_ : Int) then (line, col) else if u.r = 10 then posL at_ l (line + 1) 1 else posL at_ l line (col + 1)
def posOf (s : ByteArray) (at_ : Int) : Int × Int := posL at_ (units s) 1 1

theorem unitsFrom_mem {s : ByteArray} {u : U} : ∀ {n p : Nat}, u ∈ unitsFrom s n p → p ≤ u.at_ ∧ u.at_ < s.size ∧ Utf8.decode s u.at_ = (u.r, u.sz)
  | 0, p, h => by simp [unitsFrom] at h
  | n + 1, p, h => by
    rw [unitsFrom] at h
    split at h
    · rename_i hp
      rcases List.mem_cons.1 h with rfl | h
      · exact ⟨Nat.le_refl _, hp, rfl⟩
      · obtain ⟨h1, h2, h3⟩ := unitsFrom_mem h
        exact ⟨by omega, h2, h3⟩
    · cases h
theorem dec_le4 (b0 b1 b2 b3 : Nat) (c1 c2 c3 : Bool) (h0 : b0 < 256) : (dec b0 b1 b2 b3 c1 c2 c3).2 ≤ 4 := by
  rcases (dec_width b0 b1 b2 b3 c1 c2 c3 h0).2 with h | ⟨h, _⟩ | ⟨h, _⟩ | ⟨h, _⟩ <;> omega
theorem decode_le4 (s : ByteArray) (p : Nat) : (Utf8.decode s p).2 ≤ 4 := by rw [decode_eq]; exact dec_le4 _ _ _ _ _ _ _ (UInt8.toNat_lt _)
theorem units_mem {s : ByteArray} {u : U} (h : u ∈ units s) : u.at_ + u.sz ≤ s.size ∧ 1 ≤ u.sz ∧ u.sz ≤ 4 ∧ u.r ≤ 1114111 ∧ Utf8.decode s u.at_ = (u.r, u.sz) := by
  obtain ⟨_, h2, h3⟩ := unitsFrom_mem h
  obtain ⟨d1, d2, d3⟩ := decode_width s u.at_ h2
  have d4 := decode_le4 s u.at_
  rw [h3] at d1 d2 d3 d4
  exact ⟨d2, d1, d4, d3, h3⟩
/-- a unit's bytes -/
def piece (s : ByteArray) (u : U) : List UInt8 := (s.data.toList.drop u.at_).take u.sz
theorem piece_extract (s : ByteArray) (u : U) : (s.extract u.at_ (u.at_ + u.sz)).data.toList = piece s u := by
  have : (s.extract u.at_ (u.at_ + u.sz)).data = s.data.extract u.at_ (u.at_ + u.sz) := by simp
  rw [this]; simp [piece, List.drop_take]
theorem extract_piece (s : ByteArray) (u : U) : s.extract (u.at_ : Int).toNat ((u.at_ : Int) + (u.sz : Int)).toNat = ⟨(piece s u).toArray⟩ := by
  have h := piece_extract s u
  have e1 : (u.at_ : Int).toNat = u.at_ := by omega
  have e2 : ((u.at_ : Int) + (u.sz : Int)).toNat = u.at_ + u.sz := by omega
  rw [e1, e2, ← h]
theorem piece_le (s : ByteArray) (u : U) : (piece s u).length ≤ u.sz := by simp [piece]; omega
theorem encode_le (r : Int) : (Utf8.encode r).size ≤ 4 := by
  unfold Utf8.encode
  simp only
  generalize (if Utf8.valid r = true then r.toNat else Utf8.runeError) = c
  repeat' split
  all_goals exact Nat.le_of_ble_eq_true rfl
def lowerR (r : Int) : Int :=
  if (0x41 ≤ r ∧ r ≤ 0x5A) ∨ (0xC0 ≤ r ∧ r ≤ 0xDE ∧ r ≠ 0xD7) ∨ (0x391 ≤ r ∧ r ≤ 0x3A9 ∧ r ≠ 0x3A2) ∨ (0x410 ≤ r ∧ r ≤ 0x42F) then r + 32 else if 0x400 ≤ r ∧ r ≤ 0x40F then r + 80 else r
/-- a unit, folded -/
def foldU (s : ByteArray) (u : U) : List UInt8 := if lowerR u.r ≠ u.r then (Utf8.encode (lowerR u.r)).data.toList else piece s u
def foldL (s : ByteArray) : List UInt8 := (units s).flatMap (foldU s)
def revL (s : ByteArray) : List UInt8 := (units s).reverse.flatMap (piece s)
theorem foldU_le {s : ByteArray} {u : U} (h : u ∈ units s) : (foldU s u).length ≤ 4 := by
  unfold foldU
  split
  · exact encode_le _
  · have := piece_le s u; have := (units_mem h).2.2.1; omega
theorem flat_le {α : Type} {f : α → List UInt8} {m : Nat} : ∀ (l : List α), (∀ x ∈ l, (f x).length ≤ m) → (l.flatMap f).length ≤ m * l.length
  | [], _ => by simp
  | x :: l, h => by
    have h1 := h x List.mem_cons_self
    have h2 := flat_le l (fun y hy => h y (List.mem_cons_of_mem _ hy))
    rw [List.flatMap_cons, List.length_append, List.length_cons, Nat.mul_add]; omega
end Go.Proofs.Yteanijikhogijaa
