/- Own layer: shifts, and, or, xor of machine integers.
   Plain: texts as lists of bytes: their units, folding, joining, positions and order.
   Plain: the code points of a valid text; folding; expressions that stand for a text.
   Own layer: a scope through which the run goes without a jump; a label; a string's byte. -/
import Derived.Laws.BitsLemmas
import Derived.Laws.Bits64
import Derived.Test.YtpjdhokpfccahaaGreatDoorG6
namespace Go.Proofs.YtpjdhokpfccahaaGreatDoor
open Go.RowKit

def shrI (k : IntKind) (m n : Int) : Int := m.fdiv (2 ^ (min n.toNat k.bits))
def shlI (k : IntKind) (m n : Int) : Int := k.wrap (m * 2 ^ (min n.toNat k.bits))
section
variable {P : Program} {e : Env} {l : List (Nat × Obj)} {H : Hp} {dst : Option Tmp} {ty : TypeId} {pos : String} {after : Array Edge} {gd : Option (Nat × Bool)}
theorem PV.shr {x y : Operand} {t t' : TypeId} {k k' : IntKind} {m n : Int} (hx : evE e x = some (.int k m)) (hy : evE e y = some (.int k' n)) (h0 : 0 ≤ n) :
    PV P e l H ⟨dst, .binOp .shr t x y t', ty, pos, after, gd⟩ (.int k (shrI k m n)) := PV.mk fun X D a w ha hw => by
  have h0' : ¬ n < 0 := by omega
  simp [execOp, ha.eval hx, ha.eval hy, binOp, eqGuard, Op.shift, h0', shrI]
theorem PV.shl {x y : Operand} {t t' : TypeId} {k k' : IntKind} {m n : Int} (hx : evE e x = some (.int k m)) (hy : evE e y = some (.int k' n)) (h0 : 0 ≤ n) :
    PV P e l H ⟨dst, .binOp .shl t x y t', ty, pos, after, gd⟩ (.int k (shlI k m n)) := PV.mk fun X D a w ha hw => by
  have h0' : ¬ n < 0 := by omega
  simp [execOp, ha.eval hx, ha.eval hy, binOp, eqGuard, Op.shift, h0', shlI]
theorem PV.band {x y : Operand} {t t' : TypeId} {k : IntKind} {m n : Int} (hx : evE e x = some (.int k m)) (hy : evE e y = some (.int k n)) :
    PV P e l H ⟨dst, .binOp .and t x y t', ty, pos, after, gd⟩ (.int k (bits .and k m n)) := PV.mk fun X D a w ha hw => by
  simp [execOp, ha.eval hx, ha.eval hy, binOp, eqGuard, intBits_and]
theorem PV.bor {x y : Operand} {t t' : TypeId} {k : IntKind} {m n : Int} (hx : evE e x = some (.int k m)) (hy : evE e y = some (.int k n)) :
    PV P e l H ⟨dst, .binOp .or t x y t', ty, pos, after, gd⟩ (.int k (bits .or k m n)) := PV.mk fun X D a w ha hw => by
  simp [execOp, ha.eval hx, ha.eval hy, binOp, eqGuard, intBits_or]
/-- the same, with the value as it is known -/
theorem PV.shrR {x y : Operand} {t t' : TypeId} {k k' : IntKind} {m n r : Int} (hx : evE e x = some (.int k m)) (hy : evE e y = some (.int k' n)) (hr : shrI k m n = r) (h0 : 0 ≤ n) :
    PV P e l H ⟨dst, .binOp .shr t x y t', ty, pos, after, gd⟩ (.int k r) := hr ▸ PV.shr hx hy h0
theorem PV.shlR {x y : Operand} {t t' : TypeId} {k k' : IntKind} {m n r : Int} (hx : evE e x = some (.int k m)) (hy : evE e y = some (.int k' n)) (hr : shlI k m n = r) (h0 : 0 ≤ n) :
    PV P e l H ⟨dst, .binOp .shl t x y t', ty, pos, after, gd⟩ (.int k r) := hr ▸ PV.shl hx hy h0
theorem PV.bandR {x y : Operand} {t t' : TypeId} {k : IntKind} {m n r : Int} (hx : evE e x = some (.int k m)) (hy : evE e y = some (.int k n)) (hr : bits .and k m n = r) :
    PV P e l H ⟨dst, .binOp .and t x y t', ty, pos, after, gd⟩ (.int k r) := hr ▸ PV.band hx hy
theorem PV.borR {x y : Operand} {t t' : TypeId} {k : IntKind} {m n r : Int} (hx : evE e x = some (.int k m)) (hy : evE e y = some (.int k n)) (hr : bits .or k m n = r) :
    PV P e l H ⟨dst, .binOp .or t x y t', ty, pos, after, gd⟩ (.int k r) := hr ▸ PV.bor hx hy
end
/-! #### their values at natural numbers -/
class ArrOf (P : Program) (t : TypeId) (n el sz : outParam Nat) : Prop where
  h : P.underlying t = some (.array n el)
  s : ∀ w, (sizeOf el).run P w = .ok sz w
class BW (k : IntKind) (j : outParam Nat) : Prop where
  hj : j ≤ k.bits
  hk : ∀ n : Int, 0 ≤ n → n < 2 ^ j → k.wrap n = n
instance : BW .i64 63 := ⟨by decide, fun n h0 h1 => by rw [IntKind.wrap_i64]; omega⟩
instance : BW .u64 64 := ⟨by decide, fun n h0 h1 => by rw [IntKind.wrap_u64]; omega⟩
instance : BW .u32 32 := ⟨by decide, fun n h0 h1 => by rw [IntKind.wrap_u32]; omega⟩
instance : BW .i32 31 := ⟨by decide, fun n h0 h1 => by rw [IntKind.wrap_i32]; omega⟩
instance : BW .u8 8 := ⟨by decide, fun n h0 h1 => by rw [IntKind.wrap_u8]; omega⟩
section
variable {P : Program} {e : Env} {l : List (Nat × Obj)} {H : Hp} {dst : Option Tmp} {ty : TypeId} {pos : String} {after : Array Edge} {gd : Option (Nat × Bool)}
theorem PV.convB {s t : TypeId} {ks kt : IntKind} {j : Nat} [hs : IntT P s ks] [ht : IntT P t kt] [h : BW kt j] {x : Operand} {k : IntKind} {m : Int} (hx : evE e x = some (.int k m)) (hr : 0 ≤ m ∧ m < 2 ^ j) :
    PV P e l H ⟨dst, .convert s t x, ty, pos, after, gd⟩ (.int kt m) := by have := PV.convK (P := P) (l := l) (H := H) (dst := dst) (ty := ty) (pos := pos) (after := after) (gd := gd) (s := s) (t := t) hx; rwa [h.hk _ hr.1 hr.2] at this
theorem PV.indexArrG {t : TypeId} {n el sz : Nat} [h : ArrOf P t n el sz] {x y : Operand} {b o : Nat} {k : IntKind} {i : Int} (hx : evE e x = some (.pointer (some ⟨b, o, none⟩))) (hy : evE e y = some (.int k i)) (hi : 0 ≤ i ∧ i < n) :
    PV P e l H ⟨dst, .indexAddr t x y, ty, pos, after, gd⟩ (.pointer (some ⟨b, o + i.toNat * sz, none⟩)) := PV.mk fun X D a w ha hw => by
  have : (⟨b, o, none⟩ : Addr).add (i.toNat * sz) = ⟨b, o + i.toNat * sz, none⟩ := by unfold Addr.add; split <;> simp_all
  simp [execOp, ha.eval hx, ha.eval hy, Instr.indexAt, Instr.sureAddr, asIntOf, run_underlying h.h, h.s, hi, this]
end
theorem band_nat {k : IntKind} {j : Nat} [h : BW k j] {a b : Nat} (ha : a < 2 ^ j) (hb : b < 2 ^ j) : bits .and k a b = ((a &&& b : Nat) : Int) := (bits_nat k j h.hj h.hk a b ha hb).1
theorem bor_nat {k : IntKind} {j : Nat} [h : BW k j] {a b : Nat} (ha : a < 2 ^ j) (hb : b < 2 ^ j) : bits .or k a b = ((a ||| b : Nat) : Int) := (bits_nat k j h.hj h.hk a b ha hb).2
theorem shlI_of {k : IntKind} {j : Nat} [h : BW k j] {x n m : Int} (p : Int) (hp : (2 : Int) ^ (min n.toNat k.bits) = p) (e : x * p = m) (hm : 0 ≤ m ∧ m < 2 ^ j) : shlI k x n = m := by
  unfold shlI
  rw [hp, e]
  exact h.hk _ hm.1 hm.2
theorem shr_nat {k : IntKind} {a n : Nat} (ha : a < 2 ^ k.bits) : shrI k a n = ((a >>> n : Nat) : Int) := by
  unfold shrI
  rw [Int.toNat_natCast, Nat.shiftRight_eq_div_pow]
  have hp : (0 : Int) ≤ (2 : Int) ^ (min n k.bits) := Int.pow_nonneg (by decide)
  rw [Int.fdiv_eq_ediv_of_nonneg _ hp]
  by_cases h : n ≤ k.bits
  · rw [Nat.min_eq_left h]; norm_cast
  · rw [Nat.min_eq_right (by omega)]
    have e1 : a / 2 ^ n = 0 := Nat.div_eq_of_lt (Nat.lt_of_lt_of_le ha (Nat.pow_le_pow_right (by decide) (by omega)))
    have e2 : a / 2 ^ k.bits = 0 := Nat.div_eq_of_lt ha
    rw [e1]
    have : ((a : Int) / (2 : Int) ^ k.bits) = ((a / 2 ^ k.bits : Nat) : Int) := by norm_cast
    rw [this, e2]
theorem shl_nat {k : IntKind} {j : Nat} [h : BW k j] {a n : Nat} (hn : n ≤ k.bits) (ha : a * 2 ^ n < 2 ^ j) : shlI k a n = ((a <<< n : Nat) : Int) := by
  unfold shlI
  rw [Int.toNat_natCast, Nat.min_eq_left hn, Nat.shiftLeft_eq]
  have : ((a : Int) * (2 : Int) ^ n) = ((a * 2 ^ n : Nat) : Int) := by norm_cast
  rw [this]
  exact h.hk _ (Int.natCast_nonneg _) (by exact_mod_cast ha)
end Go.Proofs.YtpjdhokpfccahaaGreatDoor
namespace Go.Proofs.YtpjdhokpfccahaaGreatDoor


def isC (b : UInt8) : Bool := b.toNat / 64 == 2
def cB (l : List UInt8) (k : Nat) : Bool := match l[k]? with
  | some b => isC b
  | none => false
def gB (l : List UInt8) (k : Nat) : Nat := (l.getD k 0).toNat
def decB (l : List UInt8) : Nat × Nat := dec (gB l 0) (gB l 1) (gB l 2) (gB l 3) (cB l 1) (cB l 2) (cB l 3)
theorem get_B (s : ByteArray) (p k : Nat) : (s.get! (p + k)).toNat = gB (s.data.toList.drop p) k := by
  have : s.get! (p + k) = (s.data.toList.drop p).getD k 0 := by
    show s.data[p + k]! = _
    rw [List.getD_eq_getElem?_getD, List.getElem?_drop, Array.getElem?_toList]
    rw [Array.getElem!_eq_getD, Array.getD_eq_getD_getElem?]
    rfl
  rw [this, gB]
theorem cont_B (s : ByteArray) (p k : Nat) : cont s p k = cB (s.data.toList.drop p) k := by
  unfold cont cB
  rw [List.getElem?_drop, Array.getElem?_toList]
  have hsz : s.size = s.data.size := rfl
  by_cases h : p + k < s.size
  · have h1 := get_B s p k
    rw [Array.getElem?_eq_getElem (by rw [← hsz]; exact h)]
    have h2 : gB (s.data.toList.drop p) k = (s.data[p + k]'(by rw [← hsz]; exact h)).toNat := by
      unfold gB
      rw [List.getD_eq_getElem?_getD, List.getElem?_drop, Array.getElem?_toList, Array.getElem?_eq_getElem (by rw [← hsz]; exact h)]
      rfl
    simp only [h, decide_true, Bool.true_and, isC]
    rw [h1, h2]
  · rw [Array.getElem?_eq_none (by rw [← hsz]; omega)]
    simp [h]
theorem decode_B (s : ByteArray) (p : Nat) : Utf8.decode s p = decB (s.data.toList.drop p) := by
  rw [decode_eq, decB, ← cont_B, ← cont_B, ← cont_B, ← get_B, ← get_B, ← get_B, ← get_B]
  rfl

/-! ### decoding -/
theorem dec_c1 (b0 b1 b2 b3 b1' b2' b3' : Nat) (c2 c3 c2' c3' : Bool) : dec b0 b1 b2 b3 false c2 c3 = dec b0 b1' b2' b3' false c2' c3' := by simp [dec]
theorem dec_c2 (b0 b1 b2 b3 b2' b3' : Nat) (c3 c3' : Bool) : dec b0 b1 b2 b3 true false c3 = dec b0 b1 b2' b3' true false c3' := by simp [dec]
theorem dec_c3 (b0 b1 b2 b3 b3' : Nat) : dec b0 b1 b2 b3 true true false = dec b0 b1 b2 b3' true true false := by simp [dec]
def tw (l : List UInt8) : List UInt8 := l.takeWhile isC
theorem tw_yes {b : UInt8} {t : List UInt8} (h : isC b = true) : tw (b :: t) = b :: tw t := by simp [tw, h]
theorem tw_no {b : UInt8} {t : List UInt8} (h : isC b = false) : tw (b :: t) = [] := by simp [tw, h]
theorem decB_tw (b : UInt8) (t : List UInt8) : decB (b :: t) = decB (b :: tw t) := by
  cases t with
  | nil => rfl
  | cons b1 t =>
    by_cases h1 : isC b1 = true
    · rw [tw_yes h1]
      cases t with
      | nil => rfl
      | cons b2 t =>
        by_cases h2 : isC b2 = true
        · rw [tw_yes h2]
          cases t with
          | nil => rfl
          | cons b3 t =>
            by_cases h3 : isC b3 = true
            · rw [tw_yes h3]; rfl
            · have h3 := Bool.eq_false_iff.2 h3
              rw [tw_no h3]
              show dec b.toNat b1.toNat b2.toNat b3.toNat (isC b1) (isC b2) (isC b3) = dec b.toNat b1.toNat b2.toNat _ (isC b1) (isC b2) false
              rw [h1, h2, h3]; exact dec_c3 _ _ _ _ _
        · have h2 := Bool.eq_false_iff.2 h2
          rw [tw_no h2]
          show dec b.toNat b1.toNat b2.toNat _ (isC b1) (isC b2) _ = dec b.toNat b1.toNat _ _ (isC b1) false _
          rw [h1, h2]; exact dec_c2 _ _ _ _ _ _ _ _
    · have h1 := Bool.eq_false_iff.2 h1
      rw [tw_no h1]
      show dec b.toNat b1.toNat _ _ (isC b1) _ _ = dec b.toNat _ _ _ false _ _
      rw [h1]; exact dec_c1 _ _ _ _ _ _ _ _ _ _ _

def sc (r : Nat) : Prop := r ≤ 1114111 ∧ (r < 55296 ∨ 57344 ≤ r)
theorem sc_valid {r : Nat} : Utf8.valid (r : Int) = true ↔ sc r := by
  constructor
  · exact valid_nat
  · rintro ⟨h1, h2⟩
    unfold Utf8.valid
    rw [Bool.or_eq_true, Bool.and_eq_true, Bool.and_eq_true]
    rcases h2 with h2 | h2
    · exact .inl ⟨decide_eq_true (by omega), decide_eq_true (by omega)⟩
    · exact .inr ⟨decide_eq_true (by omega), decide_eq_true (by omega)⟩
def encB (r : Nat) : List UInt8 :=
  if r < 0x80 then [UInt8.ofNat r]
  else if r < 0x800 then [UInt8.ofNat (0xC0 + r / 64), UInt8.ofNat (0x80 + r % 64)]
  else if r < 0x10000 then [UInt8.ofNat (0xE0 + r / 4096), UInt8.ofNat (0x80 + r / 64 % 64), UInt8.ofNat (0x80 + r % 64)]
  else [UInt8.ofNat (0xF0 + r / 262144), UInt8.ofNat (0x80 + r / 4096 % 64), UInt8.ofNat (0x80 + r / 64 % 64), UInt8.ofNat (0x80 + r % 64)]
theorem encode_B {r : Nat} (h : sc r) : (Utf8.encode (r : Int)).data.toList = encB r := by
  unfold Utf8.encode encB
  simp only [sc_valid.2 h, if_true, Int.toNat_natCast]
  split
  · rfl
  · split
    · rfl
    · split <;> rfl
theorem isC_of {n : Nat} (h1 : 128 ≤ n) (h2 : n < 192) : isC (UInt8.ofNat n) = true := by
  have : (UInt8.ofNat n).toNat = n := by simp; omega
  rw [isC, this, beq_iff_eq]; omega
theorem toNat_of {n : Nat} (h : n < 256) : (UInt8.ofNat n).toNat = n := by simp; omega
theorem encB_len (r : Nat) : 1 ≤ (encB r).length ∧ (encB r).length ≤ 4 := by
  unfold encB; split
  · simp
  · split
    · simp
    · split <;> simp
theorem decB_enc {r : Nat} (h : sc r) (t : List UInt8) : decB (encB r ++ t) = (r, (encB r).length) := by
  have hv := sc_valid.2 h
  obtain ⟨h1, h2⟩ := h
  unfold encB
  split
  · rename_i h3
    show dec (UInt8.ofNat r).toNat _ _ _ _ _ _ = (r, 1)
    rw [toNat_of (by omega), dec, if_pos h3]
  · split
    · rename_i h3 h4
      show dec (UInt8.ofNat (0xC0 + r / 64)).toNat (UInt8.ofNat (0x80 + r % 64)).toNat _ _ (isC (UInt8.ofNat (0x80 + r % 64))) _ _ = (r, 2)
      rw [toNat_of (by omega), toNat_of (by omega), isC_of (by omega) (by omega), dec, if_neg (by omega), if_pos (by rw [Bool.and_eq_true, beq_iff_eq]; exact ⟨by omega, rfl⟩)]
      have : (192 + r / 64) % 32 * 64 + (128 + r % 64) % 64 = r := by omega
      rw [this, if_pos (by omega)]
    · split
      · rename_i h3 h4 h5
        show dec (UInt8.ofNat (0xE0 + r / 4096)).toNat (UInt8.ofNat (0x80 + r / 64 % 64)).toNat (UInt8.ofNat (0x80 + r % 64)).toNat _ (isC (UInt8.ofNat (0x80 + r / 64 % 64))) (isC (UInt8.ofNat (0x80 + r % 64))) _ = (r, 3)
        rw [toNat_of (by omega), toNat_of (by omega), toNat_of (by omega), isC_of (by omega) (by omega), isC_of (by omega) (by omega), dec, if_neg (by omega), if_neg (by rw [Bool.and_eq_true, beq_iff_eq]; rintro ⟨hh, _⟩; omega),
          if_pos (by rw [Bool.and_eq_true, Bool.and_eq_true, beq_iff_eq]; exact ⟨⟨by omega, rfl⟩, rfl⟩)]
        have : (224 + r / 4096) % 16 * 4096 + (128 + r / 64 % 64) % 64 * 64 + (128 + r % 64) % 64 = r := by omega
        rw [this, if_pos (by rw [Bool.and_eq_true]; exact ⟨decide_eq_true (by omega), hv⟩)]
      · rename_i h3 h4 h5
        show dec (UInt8.ofNat (0xF0 + r / 262144)).toNat (UInt8.ofNat (0x80 + r / 4096 % 64)).toNat (UInt8.ofNat (0x80 + r / 64 % 64)).toNat (UInt8.ofNat (0x80 + r % 64)).toNat (isC (UInt8.ofNat (0x80 + r / 4096 % 64))) (isC (UInt8.ofNat (0x80 + r / 64 % 64))) (isC (UInt8.ofNat (0x80 + r % 64))) = (r, 4)
        rw [toNat_of (by omega), toNat_of (by omega), toNat_of (by omega), toNat_of (by omega), isC_of (by omega) (by omega), isC_of (by omega) (by omega), isC_of (by omega) (by omega), dec, if_neg (by omega), if_neg (by rw [Bool.and_eq_true, beq_iff_eq]; rintro ⟨hh, _⟩; omega),
          if_neg (by rw [Bool.and_eq_true, Bool.and_eq_true, beq_iff_eq]; rintro ⟨⟨hh, _⟩, _⟩; omega), if_pos (by rw [Bool.and_eq_true, Bool.and_eq_true, Bool.and_eq_true, beq_iff_eq]; exact ⟨⟨⟨by omega, rfl⟩, rfl⟩, rfl⟩)]
        have : (240 + r / 262144) % 8 * 262144 + (128 + r / 4096 % 64) % 64 * 4096 + (128 + r / 64 % 64) % 64 * 64 + (128 + r % 64) % 64 = r := by omega
        rw [this, if_pos (by rw [Bool.and_eq_true]; exact ⟨decide_eq_true (by omega), hv⟩)]
theorem isC_iff {b : UInt8} : isC b = true ↔ b.toNat / 64 = 2 := by rw [isC, beq_iff_eq]
theorem of_toNat {b : UInt8} {n : Nat} (h : n = b.toNat) : UInt8.ofNat n = b := by subst h; simp
/-- A unit is an encoding, or a single byte that is not part of one. -/
theorem decB_view (b : UInt8) (t : List UInt8) : (∃ r t', sc r ∧ b :: t = encB r ++ t') ∨ decB (b :: t) = (65533, 1) := by
  have hb := b.toNat_lt
  by_cases h0 : b.toNat < 128
  · refine .inl ⟨b.toNat, t, ⟨by omega, by omega⟩, ?_⟩
    rw [encB, if_pos h0, of_toNat rfl]; rfl
  cases t with
  | nil =>
    right
    show dec b.toNat 0 0 0 false false false = _
    rw [dec, if_neg h0]; simp
  | cons b1 t =>
    have hb1 := b1.toNat_lt
    by_cases c1 : isC b1 = true
    · have c1' := isC_iff.1 c1
      by_cases h2 : b.toNat / 32 = 6
      · by_cases h3 : 128 ≤ b.toNat % 32 * 64 + b1.toNat % 64
        · refine .inl ⟨b.toNat % 32 * 64 + b1.toNat % 64, t, ⟨by omega, by omega⟩, ?_⟩
          rw [encB, if_neg (by omega), if_pos (by omega), of_toNat (b := b) (by omega), of_toNat (b := b1) (by omega)]; rfl
        · right
          show dec b.toNat b1.toNat _ _ (isC b1) _ _ = _
          rw [dec, if_neg h0, c1, if_pos (by rw [Bool.and_eq_true, beq_iff_eq]; exact ⟨h2, rfl⟩), if_neg (by omega)]
      · cases t with
        | nil =>
          right
          show dec b.toNat b1.toNat 0 0 (isC b1) false false = _
          rw [dec, if_neg h0, if_neg (by rw [Bool.and_eq_true, beq_iff_eq]; rintro ⟨hh, _⟩; omega)]; simp
        | cons b2 t =>
          have hb2 := b2.toNat_lt
          by_cases c2 : isC b2 = true
          · have c2' := isC_iff.1 c2
            by_cases h3 : b.toNat / 16 = 14
            · by_cases h4 : (decide (b.toNat % 16 * 4096 + b1.toNat % 64 * 64 + b2.toNat % 64 ≥ 0x800) && Utf8.valid (b.toNat % 16 * 4096 + b1.toNat % 64 * 64 + b2.toNat % 64 : Nat)) = true
              · have h4' := Bool.and_eq_true _ _ ▸ h4
                have h5 := of_decide_eq_true h4'.1
                refine .inl ⟨b.toNat % 16 * 4096 + b1.toNat % 64 * 64 + b2.toNat % 64, t, sc_valid.1 h4'.2, ?_⟩
                rw [encB, if_neg (by omega), if_neg (by omega), if_pos (by omega), of_toNat (b := b) (by omega), of_toNat (b := b1) (by omega), of_toNat (b := b2) (by omega)]; rfl
              · right
                show dec b.toNat b1.toNat b2.toNat _ (isC b1) (isC b2) _ = _
                rw [dec, if_neg h0, c1, c2, if_neg (by rw [Bool.and_eq_true, beq_iff_eq]; rintro ⟨hh, _⟩; omega), if_pos (by rw [Bool.and_eq_true, Bool.and_eq_true, beq_iff_eq]; exact ⟨⟨h3, rfl⟩, rfl⟩), if_neg h4]
            · cases t with
              | nil =>
                right
                show dec b.toNat b1.toNat b2.toNat 0 (isC b1) (isC b2) false = _
                rw [dec, if_neg h0, if_neg (by rw [Bool.and_eq_true, beq_iff_eq]; rintro ⟨hh, _⟩; omega), if_neg (by rw [Bool.and_eq_true, Bool.and_eq_true, beq_iff_eq]; rintro ⟨⟨hh, _⟩, _⟩; omega)]; simp
              | cons b3 t =>
                have hb3 := b3.toNat_lt
                by_cases h5 : b.toNat / 8 = 30 ∧ isC b3 = true
                · obtain ⟨h5, c3⟩ := h5
                  have c3' := isC_iff.1 c3
                  by_cases h4 : (decide (b.toNat % 8 * 262144 + b1.toNat % 64 * 4096 + b2.toNat % 64 * 64 + b3.toNat % 64 ≥ 0x10000) && Utf8.valid (b.toNat % 8 * 262144 + b1.toNat % 64 * 4096 + b2.toNat % 64 * 64 + b3.toNat % 64 : Nat)) = true
                  · have h4' := Bool.and_eq_true _ _ ▸ h4
                    have h6 := of_decide_eq_true h4'.1
                    refine .inl ⟨b.toNat % 8 * 262144 + b1.toNat % 64 * 4096 + b2.toNat % 64 * 64 + b3.toNat % 64, t, sc_valid.1 h4'.2, ?_⟩
                    rw [encB, if_neg (by omega), if_neg (by omega), if_neg (by omega), of_toNat (b := b) (by omega), of_toNat (b := b1) (by omega), of_toNat (b := b2) (by omega), of_toNat (b := b3) (by omega)]; rfl
                  · right
                    show dec b.toNat b1.toNat b2.toNat b3.toNat (isC b1) (isC b2) (isC b3) = _
                    rw [dec, if_neg h0, c1, c2, c3, if_neg (by rw [Bool.and_eq_true, beq_iff_eq]; rintro ⟨hh, _⟩; omega), if_neg (by rw [Bool.and_eq_true, Bool.and_eq_true, beq_iff_eq]; rintro ⟨⟨hh, _⟩, _⟩; omega), if_pos (by rw [Bool.and_eq_true, Bool.and_eq_true, Bool.and_eq_true, beq_iff_eq]; exact ⟨⟨⟨h5, rfl⟩, rfl⟩, rfl⟩), if_neg h4]
                · right
                  show dec b.toNat b1.toNat b2.toNat b3.toNat (isC b1) (isC b2) (isC b3) = _
                  rw [dec, if_neg h0, if_neg (by rw [Bool.and_eq_true, beq_iff_eq]; rintro ⟨hh, _⟩; omega), if_neg (by rw [Bool.and_eq_true, Bool.and_eq_true, beq_iff_eq]; rintro ⟨⟨hh, _⟩, _⟩; omega),
                    if_neg (by rw [Bool.and_eq_true, Bool.and_eq_true, Bool.and_eq_true, beq_iff_eq]; rintro ⟨⟨⟨hh, _⟩, _⟩, hc⟩; exact h5 ⟨hh, hc⟩)]
          · right
            have c2 := Bool.eq_false_iff.2 c2
            show dec b.toNat b1.toNat b2.toNat _ (isC b1) (isC b2) _ = _
            rw [dec, if_neg h0, c2, if_neg (by rw [Bool.and_eq_true, beq_iff_eq]; rintro ⟨hh, _⟩; omega)]; simp
    · right
      have c1 := Bool.eq_false_iff.2 c1
      show dec b.toNat b1.toNat _ _ (isC b1) _ _ = _
      rw [dec, if_neg h0, c1]; simp

/-! ### the units of a list of bytes -/
def ubF : Nat → List UInt8 → List (Nat × List UInt8)
  | 0, _ => []
  | _ + 1, [] => []
  | n + 1, b :: t => ((decB (b :: t)).1, (b :: t).take (decB (b :: t)).2) :: ubF n ((b :: t).drop (decB (b :: t)).2)
def ub (l : List UInt8) : List (Nat × List UInt8) := ubF l.length l
theorem ubF_ub : ∀ (n : Nat) (l : List UInt8), l.length ≤ n → ubF n l = ub l := by
  have hw : ∀ b t, 1 ≤ (decB (b :: t)).2 := by
    intro b t
    rcases decB_view b t with ⟨r, t', hr, he⟩ | h
    · rw [he, decB_enc hr]; exact (encB_len r).1
    · rw [h]; exact Nat.le_refl 1
  have key : ∀ (m n : Nat) (l : List UInt8), l.length ≤ m → m ≤ n → ubF n l = ubF m l := by
    intro m
    induction m with
    | zero =>
      intro n l h1 _
      have : l = [] := List.eq_nil_of_length_eq_zero (by omega)
      subst this
      cases n <;> rfl
    | succ m ih =>
      intro n l h1 h2
      obtain ⟨n, rfl⟩ : ∃ k, n = k + 1 := ⟨n - 1, by omega⟩
      cases l with
      | nil => rfl
      | cons b t =>
        show _ :: _ = _ :: _
        rw [ih n _ ?_ (by omega)]
        have := hw b t
        rw [List.length_drop]
        simp only [List.length_cons] at h1 ⊢
        omega
  intro n l h
  exact key l.length n l (Nat.le_refl _) h
theorem ub_cons (b : UInt8) (t : List UInt8) : ub (b :: t) = ((decB (b :: t)).1, (b :: t).take (decB (b :: t)).2) :: ub ((b :: t).drop (decB (b :: t)).2) := by
  show ubF (t.length + 1) (b :: t) = _
  rw [ubF, ubF_ub]
  have : 1 ≤ (decB (b :: t)).2 := by
    rcases decB_view b t with ⟨r, t', hr, he⟩ | h
    · rw [he, decB_enc hr]; exact (encB_len r).1
    · rw [h]; exact Nat.le_refl 1
  rw [List.length_drop, List.length_cons]; omega
theorem ub_enc {r : Nat} (h : sc r) (t : List UInt8) : ub (encB r ++ t) = (r, encB r) :: ub t := by
  have hl := (encB_len r).1
  have hd := decB_enc h t
  cases he : encB r with
  | nil => rw [he] at hl; simp at hl
  | cons b l =>
    rw [he] at hd
    rw [List.cons_append] at hd ⊢
    rw [ub_cons, hd]
    have e1 : (b :: (l ++ t)).take (b :: l).length = b :: l := by rw [← List.cons_append, List.take_left]
    have e2 : (b :: (l ++ t)).drop (b :: l).length = t := by rw [← List.cons_append, List.drop_left]
    dsimp only
    rw [e1, e2]
theorem ub_bad {b : UInt8} {t : List UInt8} (h : decB (b :: t) = (65533, 1)) : ub (b :: t) = (65533, [b]) :: ub t := by
  rw [ub_cons, h]; rfl
/-- Induction along the units. -/
theorem ub_induct {M : List UInt8 → Prop} (h0 : M []) (h1 : ∀ r t, sc r → ub (encB r ++ t) = (r, encB r) :: ub t → M t → M (encB r ++ t)) (h2 : ∀ b t, decB (b :: t) = (65533, 1) → ub (b :: t) = (65533, [b]) :: ub t → M t → M (b :: t)) : ∀ l, M l := by
  have key : ∀ n (l : List UInt8), l.length ≤ n → M l := by
    intro n
    induction n with
    | zero =>
      intro l h
      have : l = [] := List.eq_nil_of_length_eq_zero (by omega)
      subst this; exact h0
    | succ n ih =>
      intro l h
      cases l with
      | nil => exact h0
      | cons b t =>
        rcases decB_view b t with ⟨r, t', hr, he⟩ | hb
        · rw [he]
          refine h1 r t' hr (ub_enc hr t') (ih t' ?_)
          have := congrArg List.length he
          rw [List.length_append] at this
          have := (encB_len r).1
          omega
        · refine h2 b t hb (ub_bad hb) (ih t ?_)
          rw [List.length_cons] at h; omega
  exact fun l => key l.length l (Nat.le_refl _)
theorem ub_flat (l : List UInt8) : (ub l).flatMap (·.2) = l := by
  induction l using ub_induct with
  | h0 => rfl
  | h1 r t hr hu ih => rw [hu, List.flatMap_cons, ih]
  | h2 b t hb hu ih => rw [hu, List.flatMap_cons, ih]; rfl

/-! ### the units of a string -/
theorem unitsFrom_ub (s : ByteArray) : ∀ (n p : Nat), (unitsFrom s n p).map (fun u => (u.r, piece s u)) = ubF n (s.data.toList.drop p)
  | 0, p => rfl
  | n + 1, p => by
    rw [unitsFrom]
    by_cases h : p < s.size
    · have hne : s.data.toList.drop p ≠ [] := by
        intro he
        have := congrArg List.length he
        simp at this
        have : s.data.size = s.size := rfl
        omega
      obtain ⟨b, t, hbt⟩ : ∃ b t, s.data.toList.drop p = b :: t := List.exists_cons_of_ne_nil hne
      rw [if_pos h, List.map_cons, unitsFrom_ub s n, decode_B, piece, hbt, ubF]
      dsimp only
      rw [← hbt, List.drop_drop]
    · rw [if_neg h, List.drop_of_length_le (by simp; have : s.data.size = s.size := rfl; omega)]; rfl
theorem size_list (s : ByteArray) : s.data.toList.length = s.size := Array.length_toList
theorem units_ub (s : ByteArray) : (units s).map (fun u => (u.r, piece s u)) = ub s.data.toList := by
  rw [units, unitsFrom_ub, List.drop_zero, ubF_ub]
  exact Nat.le_of_eq (size_list s)
def f1 (x : Nat × List UInt8) : List UInt8 := if lowerR x.1 ≠ x.1 then (Utf8.encode (lowerR x.1)).data.toList else x.2
def ok1 (x : Nat × List UInt8) : Bool := decide (x.1 ≠ 65533) || decide (x.2.length = 3)
theorem foldL_ub (s : ByteArray) : foldL s = (ub s.data.toList).flatMap f1 := by
  rw [← units_ub, List.flatMap_map]; rfl
theorem piece_len {s : ByteArray} {u : U} (h : u ∈ units s) : (piece s u).length = u.sz := by
  have h1 := (units_mem h).1
  unfold piece
  rw [List.length_take, List.length_drop]
  have := size_list s
  omega

/-! ### folding -/
theorem lowerR_cases (r : Int) : lowerR r = r ∨ ((65 ≤ r ∧ r ≤ 1071) ∧ lowerR r ≤ 1151 ∧ 97 ≤ lowerR r) := by
  unfold lowerR; split
  · right; omega
  · split
    · right; omega
    · exact .inl rfl
theorem sc_lower {r : Nat} (h : sc r) : ∃ m : Nat, lowerR r = m ∧ sc m := by
  rcases lowerR_cases r with h1 | ⟨h1, h2, h3⟩
  · exact ⟨r, h1, h⟩
  · exact ⟨(lowerR r).toNat, by omega, by unfold sc; omega⟩
theorem f1_enc {r m : Nat} (h : sc r) (hm : lowerR r = m) (hs : sc m) : f1 (r, encB r) = encB m := by
  unfold f1
  dsimp only
  rw [hm]
  by_cases e : m = r
  · subst e; simp
  · rw [if_pos (by omega), encode_B hs]
theorem lowerR_ffd : lowerR ((65533 : Nat) : Int) = ((65533 : Nat) : Int) := by decide
theorem f1_bad (b : UInt8) : f1 (65533, [b]) = [b] := by
  unfold f1
  dsimp only
  rw [lowerR_ffd, if_neg (fun h => h rfl)]
def foldB (l : List UInt8) : List UInt8 := (ub l).flatMap f1
theorem encB_tw (r : Nat) (h : sc r) (t : List UInt8) : tw (encB r ++ t) = [] := by
  obtain ⟨h1, h2⟩ := h
  have : ∀ (n : Nat) (l : List UInt8), n < 256 → n / 64 ≠ 2 → tw (UInt8.ofNat n :: l) = [] := by
    intro n l h1 h2
    refine tw_no ?_
    rw [Bool.eq_false_iff]
    intro hh
    have := isC_iff.1 hh
    rw [toNat_of h1] at this
    exact h2 this
  unfold encB
  split
  · exact this _ _ (by omega) (by omega)
  · split
    · exact this _ _ (by omega) (by omega)
    · split <;> exact this _ _ (by omega) (by omega)
theorem foldB_tw (l : List UInt8) : tw (foldB l) = tw l := by
  induction l using ub_induct with
  | h0 => rfl
  | h1 r t hr hu ih =>
    obtain ⟨m, hm, hs⟩ := sc_lower hr
    rw [foldB, hu, List.flatMap_cons, f1_enc hr hm hs, encB_tw m hs, encB_tw r hr]
  | h2 b t hb hu ih =>
    rw [foldB, hu, List.flatMap_cons, f1_bad]
    show tw (b :: foldB t) = _
    by_cases h : isC b = true
    · rw [tw_yes h, tw_yes h, ih]
    · rw [tw_no (Bool.eq_false_iff.2 h), tw_no (Bool.eq_false_iff.2 h)]
theorem ub_fold_enc {r : Nat} (t : List UInt8) (hr : sc r) : ∃ m : Nat, lowerR r = m ∧ sc m ∧ foldB (encB r ++ t) = encB m ++ foldB t ∧ ub (foldB (encB r ++ t)) = (m, encB m) :: ub (foldB t) := by
  obtain ⟨m, hm, hs⟩ := sc_lower hr
  have : foldB (encB r ++ t) = encB m ++ foldB t := by rw [foldB, ub_enc hr, List.flatMap_cons, f1_enc hr hm hs]; rfl
  exact ⟨m, hm, hs, this, by rw [this, ub_enc hs]⟩
theorem ub_fold_bad {b : UInt8} {t : List UInt8} (hb : decB (b :: t) = (65533, 1)) : foldB (b :: t) = b :: foldB t ∧ ub (foldB (b :: t)) = (65533, [b]) :: ub (foldB t) := by
  have : foldB (b :: t) = b :: foldB t := by rw [foldB, ub_bad hb, List.flatMap_cons, f1_bad]; rfl
  refine ⟨this, ?_⟩
  rw [this]
  refine ub_bad ?_
  rw [decB_tw, foldB_tw, ← decB_tw, hb]
theorem ok1_enc (r : Nat) : ok1 (r, encB r) = true := by
  by_cases h : r = 65533
  · subst h; rfl
  · simp [ok1, h]
theorem ok1_bad (b : UInt8) : ok1 (65533, [b]) = false := by
  unfold ok1
  dsimp only
  rw [decide_eq_false (fun h => h rfl)]; rfl
def validB (l : List UInt8) : Bool := (ub l).all ok1
theorem fold_valid (l : List UInt8) : validB (foldB l) = validB l := by
  induction l using ub_induct with
  | h0 => rfl
  | h1 r t hr hu ih =>
    obtain ⟨m, hm, hs, h1, h2⟩ := ub_fold_enc t hr
    rw [validB, h2, validB, hu, List.all_cons, List.all_cons, ok1_enc, ok1_enc]
    simpa [validB] using ih
  | h2 b t hb hu ih => rw [validB, (ub_fold_bad hb).2, validB, hu, List.all_cons, List.all_cons, ok1_bad]; rfl
theorem fold_size (l : List UInt8) : (foldB l).length = l.length := by
  induction l using ub_induct with
  | h0 => rfl
  | h1 r t hr hu ih =>
    obtain ⟨m, hm, hs, h1, h2⟩ := ub_fold_enc t hr
    rw [h1, List.length_append, List.length_append, ih]
    congr 1
    have hl : lowerR (r : Int) = r ∨ (65 ≤ r ∧ r < 128 ∧ lowerR (r : Int) < 128 ∧ 0 ≤ lowerR (r : Int)) ∨ (128 ≤ r ∧ r < 2048 ∧ 128 ≤ lowerR (r : Int) ∧ lowerR (r : Int) < 2048) := by
      unfold lowerR; repeat' split <;> omega
    rw [hm] at hl
    rcases hl with h | h | h
    · have : m = r := by omega
      rw [this]
    · unfold encB; rw [if_pos (show m < 128 by omega), if_pos (show r < 128 by omega)]
      rfl
    · unfold encB; rw [if_neg (show ¬ m < 128 by omega), if_pos (show m < 2048 by omega), if_neg (show ¬ r < 128 by omega), if_pos (show r < 2048 by omega)]
      rfl
  | h2 b t hb hu ih => rw [(ub_fold_bad hb).1, List.length_cons, List.length_cons, ih]

/-! ### joining -/
theorem validB_enc {r : Nat} (h : sc r) (t : List UInt8) : validB (encB r ++ t) = validB t := by
  rw [validB, ub_enc h, List.all_cons, ok1_enc]; rfl
theorem validB_bad {b : UInt8} {t : List UInt8} (h : decB (b :: t) = (65533, 1)) : validB (b :: t) = false := by
  rw [validB, ub_bad h, List.all_cons, ok1_bad]; rfl
theorem valid_units {a : List UInt8} (h : validB a = true) : ∀ x ∈ ub a, sc x.1 ∧ x.2 = encB x.1 := by
  induction a using ub_induct with
  | h0 => intro x hx; cases hx
  | h1 r a hr hu ih =>
    rw [validB_enc hr] at h
    rw [hu]
    intro x hx
    rcases List.mem_cons.1 hx with rfl | hx
    · exact ⟨hr, rfl⟩
    · exact ih h x hx
  | h2 b a hb hu ih => rw [validB_bad hb] at h; cases h
theorem validS_ub (s : ByteArray) : validS s = validB s.data.toList := by
  rw [validB, ← units_ub, validS, List.all_map, Bool.eq_iff_iff, List.all_eq_true, List.all_eq_true]
  have : ∀ u ∈ units s, okU u = (ok1 ∘ fun u => (u.r, piece s u)) u := fun u hu => by
    show okU u = ok1 (u.r, piece s u)
    unfold okU ok1
    dsimp only
    rw [piece_len hu]
  constructor
  · intro h u hu; rw [← this u hu]; exact h u hu
  · intro h u hu; rw [this u hu]; exact h u hu
theorem foldL_B (s : ByteArray) : foldL s = foldB s.data.toList := foldL_ub s
def foldS (s : ByteArray) : ByteArray := ⟨(foldL s).toArray⟩
theorem foldS_list (s : ByteArray) : (foldS s).data.toList = foldB s.data.toList := foldL_B s
theorem foldS_size (s : ByteArray) : (foldS s).size = s.size := by rw [← size_list, foldS_list, fold_size, size_list]
theorem foldS_valid (s : ByteArray) : validS (foldS s) = validS s := by rw [validS_ub, foldS_list, fold_valid, ← validS_ub]
theorem app_list (a b : ByteArray) : (a ++ b).data.toList = a.data.toList ++ b.data.toList := by simp
theorem ba_ext {a b : ByteArray} (h : a.data.toList = b.data.toList) : a = b := by
  cases a; cases b
  congr 1
  exact Array.ext' h
theorem app_size (a b : ByteArray) : (a ++ b).size = a.size + b.size := by rw [← size_list, app_list, List.length_append, size_list, size_list]
end Go.Proofs.YtpjdhokpfccahaaGreatDoor
namespace Go.Proofs.YtpjdhokpfccahaaGreatDoor


/-- the code points of a text -/
def scs (l : List UInt8) : List Nat := (ub l).map (·.1)
def encL (rs : List Nat) : List UInt8 := rs.flatMap encB
theorem scs_enc : ∀ (rs : List Nat), (∀ r ∈ rs, sc r) → scs (encL rs) = rs
  | [], _ => rfl
  | r :: rs, h => by
    unfold scs encL
    rw [List.flatMap_cons, ub_enc (h r List.mem_cons_self), List.map_cons]
    exact congrArg _ (scs_enc rs fun x hx => h x (List.mem_cons_of_mem _ hx))
theorem validB_encL : ∀ (rs : List Nat), (∀ r ∈ rs, sc r) → validB (encL rs) = true
  | [], _ => rfl
  | r :: rs, h => by
    unfold encL
    rw [List.flatMap_cons, validB_enc (h r List.mem_cons_self)]
    exact validB_encL rs fun x hx => h x (List.mem_cons_of_mem _ hx)
theorem enc_scs {l : List UInt8} (h : validB l = true) : encL (scs l) = l ∧ ∀ r ∈ scs l, sc r := by
  have hu := valid_units h
  constructor
  · have : ∀ (L : List (Nat × List UInt8)), (∀ x ∈ L, sc x.1 ∧ x.2 = encB x.1) → encL (L.map (·.1)) = L.flatMap (·.2) := by
      intro L
      induction L with
      | nil => intro _; rfl
      | cons x L ih =>
        intro hL
        have h1 := (hL x List.mem_cons_self).2
        have h2 := ih fun y hy => hL y (List.mem_cons_of_mem _ hy)
        unfold encL at h2 ⊢
        rw [List.map_cons, List.flatMap_cons, List.flatMap_cons, h2, h1]
    unfold scs
    rw [this _ hu, ub_flat]
  · intro r hr
    obtain ⟨x, hx, rfl⟩ := List.mem_map.1 hr
    exact (hu x hx).1
def lowN (r : Nat) : Nat := (lowerR (r : Int)).toNat
theorem lowN_eq {r : Nat} (h : sc r) : lowerR (r : Int) = (lowN r : Int) ∧ sc (lowN r) := by
  obtain ⟨m, h1, h2⟩ := sc_lower h
  have : lowN r = m := by unfold lowN; rw [h1]; simp
  rw [this]; exact ⟨h1, h2⟩
theorem fold_encL : ∀ (rs : List Nat), (∀ r ∈ rs, sc r) → foldB (encL rs) = encL (rs.map lowN)
  | [], _ => rfl
  | r :: rs, h => by
    have hr := h r List.mem_cons_self
    obtain ⟨m, h1, h2, h3, _⟩ := ub_fold_enc (encL rs) hr
    have hm : lowN r = m := by unfold lowN; rw [h1]; simp
    have e1 : encL (r :: rs) = encB r ++ encL rs := by unfold encL; rw [List.flatMap_cons]
    have e2 : encL ((r :: rs).map lowN) = encB m ++ encL (rs.map lowN) := by unfold encL; rw [List.map_cons, List.flatMap_cons, hm]
    rw [e1, h3, e2, fold_encL rs fun x hx => h x (List.mem_cons_of_mem _ hx)]
theorem scs_fold {l : List UInt8} (h : validB l = true) : scs (foldB l) = (scs l).map lowN := by
  obtain ⟨h1, h2⟩ := enc_scs h
  conv => lhs; rw [← h1]
  rw [fold_encL _ h2, scs_enc]
  intro r hr
  obtain ⟨x, hx, rfl⟩ := List.mem_map.1 hr
  exact (lowN_eq (h2 x hx)).2
/-- a character that is written behind a backslash -/
def spc (r : Nat) : Bool := [92, 46, 91, 93, 40, 41, 123, 125, 124, 42, 43, 63].contains r
def qR (r : Nat) : List Nat := if spc r = true then [92, r] else [r]
def qL (rs : List Nat) : List Nat := rs.flatMap qR
theorem spc_mem {r : Nat} : spc r = true ↔ r = 92 ∨ r = 46 ∨ r = 91 ∨ r = 93 ∨ r = 40 ∨ r = 41 ∨ r = 123 ∨ r = 125 ∨ r = 124 ∨ r = 42 ∨ r = 43 ∨ r = 63 := by
  unfold spc
  simp
theorem spc_low {r : Nat} (h : sc r) : spc (lowN r) = spc r ∧ (spc r = true → lowN r = r) := by
  obtain ⟨h1, h2⟩ := lowN_eq h
  have hx : ∀ k : Nat, lowN r = k ↔ lowerR (r : Int) = (k : Int) := fun k => by rw [h1]; omega
  have hp : spc r = true → lowN r = r := fun hs => by
    rw [hx]
    rcases spc_mem.1 hs with h | h | h | h | h | h | h | h | h | h | h | h <;> subst h <;> decide
  refine ⟨?_, hp⟩
  rw [Bool.eq_iff_iff]
  constructor
  · intro hs
    have hs2 := spc_mem.1 hs
    have : lowN r = r := by
      rw [hx]
      rcases hs2 with h | h | h | h | h | h | h | h | h | h | h | h <;>
        (rw [hx] at h
         unfold lowerR at h ⊢
         split at h
         · exfalso; omega
         · split at h
           · exfalso; omega
           · rw [if_neg (by assumption), if_neg (by assumption)])
    rw [← this]; exact hs
  · intro hs
    rw [hp hs]; exact hs
theorem q_low : ∀ (rs : List Nat), (∀ r ∈ rs, sc r) → (qL rs).map lowN = qL (rs.map lowN)
  | [], _ => rfl
  | r :: rs, h => by
    have hr := h r List.mem_cons_self
    obtain ⟨h1, h2⟩ := spc_low hr
    unfold qL
    rw [List.flatMap_cons, List.map_append, List.map_cons, List.flatMap_cons]
    congr 1
    · unfold qR
      rw [h1]
      by_cases hs : spc r = true
      · rw [if_pos hs, if_pos hs]
        have : lowN 92 = 92 := by decide
        simp [this]
      · rw [if_neg hs, if_neg hs]; rfl
    · exact q_low rs fun x hx => h x (List.mem_cons_of_mem _ hx)
theorem q_sc {rs : List Nat} (h : ∀ r ∈ rs, sc r) : ∀ r ∈ qL rs, sc r := by
  intro r hr
  obtain ⟨x, hx, hm⟩ := List.mem_flatMap.1 hr
  unfold qR at hm
  split at hm
  · rcases List.mem_cons.1 hm with rfl | hm
    · exact ⟨by decide, .inl (by decide)⟩
    · rw [List.mem_singleton] at hm; subst hm; exact h r hx
  · rw [List.mem_singleton] at hm; subst hm; exact h r hx
/-- whether the code points of a text fit the leaves of an expression, one by one -/
def mt (ok : Nat → Nat → Bool) : List Nat → List Nat → Bool
  | [], [] => true
  | w :: ws, v :: vs => ok w v && mt ok ws vs
  | _, _ => false
theorem mt_nil (ok : Nat → Nat → Bool) : ∀ ws : List Nat, mt ok ws [] = decide (ws = [])
  | [] => rfl
  | _ :: _ => rfl
theorem mt_end (ok : Nat → Nat → Bool) : ∀ vs : List Nat, mt ok [] vs = decide (vs = [])
  | [] => rfl
  | _ :: _ => rfl
theorem mt_drop {ok : Nat → Nat → Bool} {ws vs : List Nat} {j w v : Nat} (hw : ws[j]? = some w) (hv : vs[j]? = some v) : mt ok (ws.drop j) (vs.drop j) = (ok w v && mt ok (ws.drop (j + 1)) (vs.drop (j + 1))) := by
  obtain ⟨h1, rfl⟩ := List.getElem?_eq_some_iff.1 hw
  obtain ⟨h2, rfl⟩ := List.getElem?_eq_some_iff.1 hv
  rw [List.drop_eq_getElem_cons h1, List.drop_eq_getElem_cons h2]; rfl
theorem mt_map (f : Nat → Nat) : ∀ ws vs : List Nat, mt (fun w v => decide (f w = f v)) ws vs = decide (ws.map f = vs.map f)
  | [], [] => rfl
  | [], _ :: _ => rfl
  | _ :: _, [] => rfl
  | w :: ws, v :: vs => by
    unfold mt
    rw [mt_map f ws vs, List.map_cons, List.map_cons, Bool.eq_iff_iff]
    simp
theorem mt_eq (ws vs : List Nat) : mt (fun w v => decide (w = v)) ws vs = decide (ws = vs) := by
  have := mt_map id ws vs
  simpa using this

end Go.Proofs.YtpjdhokpfccahaaGreatDoor
namespace Go

section
variable {P : Program} {b : Frame} {a : Act} {k : List Item} {cs : List Frame} {w : World}
theorem stepR_scope {c : Code} : step P (lone (b.atR a (.code (.scope c) :: k)) cs w) = .next (lone (b.atR a (.code c :: .inScope c :: k)) cs w) :=
  step_lone_go (by simp [stepG, stepG.exec, Frame.atR])
theorem stepR_inScope {c : Code} : step P (lone (b.atR a (.inScope c :: k)) cs w) = .next (lone (b.atR a k) cs w) :=
  step_lone_go (by simp [stepG, stepG.exec, Frame.atR])
end
section
variable {F : Fence} {n : Nat} {P : Program} {Q : Exit → Act → World → Prop} {a : Act} {w : World}
theorem wpIn_scope_straight {c : Code} (h : c.wpIn F n P Q a w) (hg : ∀ l a w, ¬ Q (.goto l) a w) : (Code.scope c).wpIn F n P Q a w := by
  intro b k cs hro hb hr
  have h0 : (lone (b.atR a (.code (.scope c) :: k)) cs w).fenced P F := fenced_calm hb hr rfl
  obtain ⟨e, a₁, w₁, hq, harr⟩ := h b (.inScope c :: k) cs hro hb hr
  cases e with
  | normal => exact ⟨.normal, a₁, w₁, hq, .head h0 stepR_scope (StepsIn.trans harr (.one (fenced_calm hb hr rfl) stepR_inScope))⟩
  | exit id =>
    have hx : exitTo id (.inScope c :: k) = exitTo id k := by simp [exitTo]
    exact ⟨.exit id, a₁, w₁, hq, fun k' hk => .head h0 stepR_scope (harr.1 k' (by rw [hx]; exact hk)),
      fun hr' hk => let ⟨k₁, h1, h2⟩ := harr.2 hr' (by rw [hx]; exact hk); ⟨k₁, h1, .head h0 stepR_scope h2⟩⟩
  | goto l => exact absurd hq (hg _ _ _)
  | ret => exact ⟨_, a₁, w₁, hq, .of_steps (.one h0 stepR_scope) harr⟩
  | panic ch => exact ⟨_, a₁, w₁, hq, .of_steps (.one h0 stepR_scope) harr⟩
  | outgrown => exact ⟨_, a₁, w₁, hq, .of_steps (.one h0 stepR_scope) harr⟩
end
end Go
namespace Go.Proofs.YtpjdhokpfccahaaGreatDoor
open Go.RowKit
theorem wpK_goto {P : Program} {ro : Option Nat} {Q : Post} {a : Act} {w : World} {l : Nat} (hg : ¬ Q (.goto l) a w) : ∀ k : List It, ¬ wpK P ro Q k (.goto l) a w
  | [], h => hg h
  | .code _ :: k, h => wpK_goto hg k h
  | .blk _ :: k, h => wpK_goto hg k h
  | .ops _ _ :: k, h => wpK_goto hg k h
  | .done _ :: k, h => wpK_goto hg k h
section
variable {P : Program} {X : Cx} {e : Env} {l : List (Nat × Obj)} {H : Hp} {D : List Deferred} {k : List It}
theorem T.scope {c : Code} (hg : ∀ l a w, ¬ X.Q (.goto l) a w) (h : T P X e l H D (.code c :: k)) : T P X e l H D (.code (.scope c) :: k) := T.mk fun a w ha hw => by
  show (Code.scope c).wpIn _ _ _ _ _ _
  exact wpIn_scope_straight (h.get a w ha hw) fun l a w => wpK_goto (hg l a w) k
theorem TA.nrm {e0 : Env} {l0 : List (Nat × Obj)} {all : Array Oper} {pl pl' : Plan} {ls : List (List (Nat × Obj))} {lc : List (Nat × Obj)} {os : List Oper} (hp : pl = pl') (h : TA P X e0 l0 H D all k pl' ls lc os) : TA P X e0 l0 H D all k pl ls lc os := hp ▸ h
end
end Go.Proofs.YtpjdhokpfccahaaGreatDoor
