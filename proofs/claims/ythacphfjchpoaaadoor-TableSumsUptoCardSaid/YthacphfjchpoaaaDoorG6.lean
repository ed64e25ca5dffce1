/- made corpora: names and values: what is read is in range.
   Plain: the units of a string, as the model decodes them.
   strings: the reference's units; which strings are valid.
   made corpora: a corpus; values, pairs, places in texts.
   made corpora: a corpus; its parts are looked at. -/
import GoSem.Core.Utf8
import Derived.WalkKit
import Derived.Test.YthacphfjchpoaaaDoorG5
namespace Go.Proofs.YthacphfjchpoaaaDoor
open Go.RowKit


/-- may begin, or continue, a name -/
def nmFst (c : Int) : Bool := decide (c = 95) || (decide (65 ≤ c) && decide (c ≤ 90)) || (decide (97 ≤ c) && decide (c ≤ 122))
def nmNxt (c : Int) : Bool := nmFst c || (decide (48 ≤ c) && decide (c ≤ 57)) || decide (c = 45)
def nmB (c : UInt8) : Bool := nmNxt (c.toNat : Int)
def validName (s : ByteArray) : Bool := decide (1 ≤ s.size) && decide (s.size ≤ 32) && (match s.data.toList with | [] => false | c :: l => nmFst (c.toNat : Int) && l.all nmB)
end Go.Proofs.YthacphfjchpoaaaDoor
namespace Go.Proofs.YthacphfjchpoaaaDoor

structure U where
  r : Nat
  at_ : Nat
  sz : Nat
  deriving DecidableEq

/-- The model's decoding, of bytes and of which of them continue. -/
def dec (b0 b1 b2 b3 : Nat) (c1 c2 c3 : Bool) : Nat × Nat :=
  if b0 < 0x80 then (b0, 1)
  else if b0 / 32 == 6 && c1 then
    if (b0 % 32) * 64 + b1 % 64 ≥ 0x80 then ((b0 % 32) * 64 + b1 % 64, 2) else (0xFFFD, 1)
  else if b0 / 16 == 14 && c1 && c2 then
    if (b0 % 16) * 4096 + (b1 % 64) * 64 + b2 % 64 ≥ 0x800 && Utf8.valid ((b0 % 16) * 4096 + (b1 % 64) * 64 + b2 % 64 : Nat) then ((b0 % 16) * 4096 + (b1 % 64) * 64 + b2 % 64, 3) else (0xFFFD, 1)
  else if b0 / 8 == 30 && c1 && c2 && c3 then
    if (b0 % 8) * 262144 + (b1 % 64) * 4096 + (b2 % 64) * 64 + b3 % 64 ≥ 0x10000 && Utf8.valid ((b0 % 8) * 262144 + (b1 % 64) * 4096 + (b2 % 64) * 64 + b3 % 64 : Nat) then ((b0 % 8) * 262144 + (b1 % 64) * 4096 + (b2 % 64) * 64 + b3 % 64, 4) else (0xFFFD, 1)
  else (0xFFFD, 1)
/-- byte k from i on continues -/
def cont (s : ByteArray) (i k : Nat) : Bool := i + k < s.size && (s.get! (i + k)).toNat / 64 == 2
theorem decode_eq (s : ByteArray) (i : Nat) : Utf8.decode s i = dec (s.get! i).toNat (s.get! (i + 1)).toNat (s.get! (i + 2)).toNat (s.get! (i + 3)).toNat (cont s i 1) (cont s i 2) (cont s i 3) := rfl
theorem valid_nat {n : Nat} (h : Utf8.valid (n : Int) = true) : n ≤ 1114111 ∧ (n < 55296 ∨ 57344 ≤ n) := by
  unfold Utf8.valid at h
  rw [Bool.or_eq_true, Bool.and_eq_true, Bool.and_eq_true] at h
  rcases h with ⟨_, h⟩ | ⟨h, h'⟩
  · have := of_decide_eq_true h
    omega
  · have := of_decide_eq_true h
    have := of_decide_eq_true h'
    omega
theorem dec_width (b0 b1 b2 b3 : Nat) (c1 c2 c3 : Bool) (h0 : b0 < 256) :
    (dec b0 b1 b2 b3 c1 c2 c3).1 ≤ 1114111 ∧ ((dec b0 b1 b2 b3 c1 c2 c3).2 = 1 ∨ ((dec b0 b1 b2 b3 c1 c2 c3).2 = 2 ∧ c1 = true) ∨ ((dec b0 b1 b2 b3 c1 c2 c3).2 = 3 ∧ c1 = true ∧ c2 = true) ∨ ((dec b0 b1 b2 b3 c1 c2 c3).2 = 4 ∧ c1 = true ∧ c2 = true ∧ c3 = true)) := by
  unfold dec
  split
  · exact ⟨by show b0 ≤ _; omega, .inl rfl⟩
  · split
    · rename_i h
      rw [Bool.and_eq_true] at h
      split
      · exact ⟨by show _ ≤ _; omega, .inr (.inl ⟨rfl, h.2⟩)⟩
      · exact ⟨by show 65533 ≤ _; omega, .inl rfl⟩
    · split
      · rename_i h
        rw [Bool.and_eq_true, Bool.and_eq_true] at h
        split
        · exact ⟨by show _ ≤ _; omega, .inr (.inr (.inl ⟨rfl, h.1.2, h.2⟩))⟩
        · exact ⟨by show 65533 ≤ _; omega, .inl rfl⟩
      · split
        · rename_i h
          rw [Bool.and_eq_true, Bool.and_eq_true, Bool.and_eq_true] at h
          split
          · rename_i h'
            rw [Bool.and_eq_true] at h'
            exact ⟨(valid_nat h'.2).1, .inr (.inr (.inr ⟨rfl, h.1.1.2, h.1.2, h.2⟩))⟩
          · exact ⟨by show 65533 ≤ _; omega, .inl rfl⟩
        · exact ⟨by show 65533 ≤ _; omega, .inl rfl⟩
theorem cont_lt {s : ByteArray} {i k : Nat} (h : cont s i k = true) : i + k < s.size := by
  unfold cont at h
  rw [Bool.and_eq_true] at h
  exact of_decide_eq_true h.1
theorem decode_width (s : ByteArray) (p : Nat) (h : p < s.size) : 1 ≤ (Utf8.decode s p).2 ∧ p + (Utf8.decode s p).2 ≤ s.size ∧ (Utf8.decode s p).1 ≤ 1114111 := by
  rw [decode_eq]
  obtain ⟨h1, h2⟩ := dec_width (s.get! p).toNat (s.get! (p + 1)).toNat (s.get! (p + 2)).toNat (s.get! (p + 3)).toNat (cont s p 1) (cont s p 2) (cont s p 3) (UInt8.toNat_lt _)
  refine ⟨?_, ?_, h1⟩
  · rcases h2 with h2 | ⟨h2, _⟩ | ⟨h2, _⟩ | ⟨h2, _⟩ <;> omega
  · rcases h2 with h2 | ⟨h2, h3⟩ | ⟨h2, _, h3⟩ | ⟨h2, _, _, h3⟩
    · omega
    all_goals (have := cont_lt h3; omega)

def unitsFrom (s : ByteArray) : Nat → Nat → List U
  | 0, _ => []
  | n + 1, p => if p < s.size then ⟨(Utf8.decode s p).1, p, (Utf8.decode s p).2⟩ :: unitsFrom s n (p + (Utf8.decode s p).2) else []
def units (s : ByteArray) : List U := unitsFrom s s.size 0

theorem unitsFrom_mem {s : ByteArray} {u : U} : ∀ {n p : Nat}, u ∈ unitsFrom s n p → p ≤ u.at_ ∧ u.at_ < s.size ∧ Utf8.decode s u.at_ = (u.r, u.sz)
  | 0, p, h => by simp [unitsFrom] at h
  | n + 1, p, h => by
    rw [unitsFrom] at h
    split at h
    · rename_i hp
      rcases List.mem_cons.1 h with rfl | h
      · exact ⟨Nat.le_refl _, hp, rfl⟩
      · obtain ⟨h1, h2, h3⟩ := unitsFrom_mem h
        exact ⟨by omega, h2, h3⟩
    · cases h
theorem dec_le4 (b0 b1 b2 b3 : Nat) (c1 c2 c3 : Bool) (h0 : b0 < 256) : (dec b0 b1 b2 b3 c1 c2 c3).2 ≤ 4 := by
  rcases (dec_width b0 b1 b2 b3 c1 c2 c3 h0).2 with h | ⟨h, _⟩ | ⟨h, _⟩ | ⟨h, _⟩ <;> omega
theorem decode_le4 (s : ByteArray) (p : Nat) : (Utf8.decode s p).2 ≤ 4 := by rw [decode_eq]; exact dec_le4 _ _ _ _ _ _ _ (UInt8.toNat_lt _)
theorem units_mem {s : ByteArray} {u : U} (h : u ∈ units s) : u.at_ + u.sz ≤ s.size ∧ 1 ≤ u.sz ∧ u.sz ≤ 4 ∧ u.r ≤ 1114111 ∧ Utf8.decode s u.at_ = (u.r, u.sz) := by
  obtain ⟨_, h2, h3⟩ := unitsFrom_mem h
  obtain ⟨d1, d2, d3⟩ := decode_width s u.at_ h2
  have d4 := decode_le4 s u.at_
  rw [h3] at d1 d2 d3 d4
  exact ⟨d2, d1, d4, d3, h3⟩
/-- a unit's bytes -/
def piece (s : ByteArray) (u : U) : List UInt8 := (s.data.toList.drop u.at_).take u.sz
theorem piece_extract (s : ByteArray) (u : U) : (s.extract u.at_ (u.at_ + u.sz)).data.toList = piece s u := by
  have : (s.extract u.at_ (u.at_ + u.sz)).data = s.data.extract u.at_ (u.at_ + u.sz) := by simp
  rw [this]; simp [piece, List.drop_take]
theorem extract_piece (s : ByteArray) (u : U) : s.extract (u.at_ : Int).toNat ((u.at_ : Int) + (u.sz : Int)).toNat = ⟨(piece s u).toArray⟩ := by
  have h := piece_extract s u
  have e1 : (u.at_ : Int).toNat = u.at_ := by omega
  have e2 : ((u.at_ : Int) + (u.sz : Int)).toNat = u.at_ + u.sz := by omega
  rw [e1, e2, ← h]
theorem piece_le (s : ByteArray) (u : U) : (piece s u).length ≤ u.sz := by simp [piece]; omega
theorem encode_le (r : Int) : (Utf8.encode r).size ≤ 4 := by
  unfold Utf8.encode
  simp only
  generalize (if Utf8.valid r = true then r.toNat else Utf8.runeError) = c
  repeat' split
  all_goals exact Nat.le_of_ble_eq_true rfl
def lowerR (r : Int) : Int :=
  if (0x41 ≤ r ∧ r ≤ 0x5A) ∨ (0xC0 ≤ r ∧ r ≤ 0xDE ∧ r ≠ 0xD7) ∨ (0x391 ≤ r ∧ r ≤ 0x3A9 ∧ r ≠ 0x3A2) ∨ (0x410 ≤ r ∧ r ≤ 0x42F) then r + 32 else if 0x400 ≤ r ∧ r ≤ 0x40F then r + 80 else r
/-- a unit, folded -/
def foldU (s : ByteArray) (u : U) : List UInt8 := if lowerR u.r ≠ u.r then (Utf8.encode (lowerR u.r)).data.toList else piece s u
def foldL (s : ByteArray) : List UInt8 := (units s).flatMap (foldU s)
def revL (s : ByteArray) : List UInt8 := (units s).reverse.flatMap (piece s)
theorem foldU_le {s : ByteArray} {u : U} (h : u ∈ units s) : (foldU s u).length ≤ 4 := by
  unfold foldU
  split
  · exact encode_le _
  · have := piece_le s u; have := (units_mem h).2.2.1; omega
theorem flat_le {α : Type} {f : α → List UInt8} {m : Nat} : ∀ (l : List α), (∀ x ∈ l, (f x).length ≤ m) → (l.flatMap f).length ≤ m * l.length
  | [], _ => by simp
  | x :: l, h => by
    have h1 := h x List.mem_cons_self
    have h2 := flat_le l (fun y hy => h y (List.mem_cons_of_mem _ hy))
    rw [List.flatMap_cons, List.length_append, List.length_cons, Nat.mul_add]; omega
end Go.Proofs.YthacphfjchpoaaaDoor
namespace Go.Proofs.YthacphfjchpoaaaDoor
open Go.RowKit


theorem unitsFrom_len (s : ByteArray) : ∀ n p, p ≤ s.size → (unitsFrom s n p).length ≤ s.size - p
  | 0, p, _ => by simp [unitsFrom]
  | n + 1, p, h => by
    rw [unitsFrom]
    split
    · rename_i hp
      obtain ⟨d1, d2, d3⟩ := decode_width s p hp
      have := unitsFrom_len s n (p + (Utf8.decode s p).2) d2
      rw [List.length_cons]; omega
    · simp
theorem units_len (s : ByteArray) : (units s).length ≤ s.size := by have := unitsFrom_len s s.size 0 (by omega); simpa [units] using this

end Go.Proofs.YthacphfjchpoaaaDoor
namespace Go.Proofs.YthacphfjchpoaaaDoor
open Go.RowKit


end Go.Proofs.YthacphfjchpoaaaDoor
namespace Go.Proofs.YthacphfjchpoaaaDoor
open Go.RowKit


def encAt (a : ByteArray × Bool) : List Value := [.string a.1, .bool a.2]
theorem encAt_len (a : ByteArray × Bool) : (encAt a).length = 2 := rfl
structure Tk where
  v : Value
  ss : List ByteArray
def encTk (t : Tk) : List Value := [t.v]
theorem encTk_len (t : Tk) : (encTk t).length = 1 := rfl
def TkOk (H : Hp) (t : Tk) : Prop := StL H t.v t.ss ∧ t.ss.length ≤ 1000 ∧ ∀ s ∈ t.ss, s.size ≤ 4000
theorem TkOk.mono {H H' : Hp} {t : Tk} (h : TkOk H t) (hl : H.le H') : TkOk H' t := ⟨h.1.mono hl, h.2⟩
structure Cp where
  va : Value
  att : List (ByteArray × Bool)
  vt : Value
  tk : List Tk
  vx : Value
  tx : List Rg
  vr : Value
  rg : List Rg
  vn : Value
  nd : List Nd
  vh : Value
  hd : List Int
  vs : Value
  rl : List ByteArray
def cpC (c : Cp) : List Value := [c.va, c.vt, c.vx, c.vr, c.vn, c.vh, c.vs]
def cpV (c : Cp) : Value := .agg #[c.va, c.vt, c.vx, c.vr, c.vn, c.vh, c.vs]
/-- a corpus in memory that is only read -/
structure CpL (H : Hp) (c : Cp) : Prop where
  a : SlR H 2 c.va c.att.length (c.att.flatMap encAt)
  t : SlR H 1 c.vt c.tk.length (c.tk.flatMap encTk)
  x : RgL H c.vx c.tx
  r : RgL H c.vr c.rg
  n : NdL H c.vn c.nd
  h : InL H c.vh c.hd
  s : StL H c.vs c.rl
  tO : ∀ t ∈ c.tk, TkOk H t
  la : c.att.length ≤ 1000
  lt : c.tk.length ≤ 1000
  lx : c.tx.length ≤ 1000
  lr : c.rg.length ≤ 1000
  ln : c.nd.length ≤ 1000
  lh : c.hd.length ≤ 1000
  ls : c.rl.length ≤ 1000
theorem RgL.mono {H H' : Hp} {v : Value} {l : List Rg} (h : RgL H v l) (hl : H.le H') : RgL H' v l := ⟨h.1.mono hl, fun r hr => (h.2 r hr).mono hl⟩
theorem CpL.mono {H H' : Hp} {c : Cp} (h : CpL H c) (hl : H.le H') : CpL H' c :=
  ⟨h.a.mono hl, h.t.mono hl, h.x.mono hl, h.r.mono hl, h.n.mono hl, h.h.mono hl, h.s.mono hl, fun t ht => (h.tO t ht).mono hl, h.la, h.lt, h.lx, h.lr, h.ln, h.lh, h.ls⟩
/-- where element i of a list lies, and what it is -/
theorem RowL.get {α : Type} {enc : α → List Value} {sz : Nat} (hf : ∀ x, (enc x).length = sz) {H : Hp} {ad : Option Addr} {n cap : Nat} {l : List α} (h : SlR H sz (.slice ad n cap) l.length (l.flatMap enc)) {i : Nat} (hi : i < l.length) : ∃ b off x, ad = some ⟨b, off, none⟩ ∧ l[i]? = some x ∧ SubC H b (off + i * sz) (enc x) := by
  obtain ⟨b, off, e, hs⟩ := RowL.at hf h (List.getElem?_eq_getElem hi)
  exact ⟨b, off, _, e, List.getElem?_eq_getElem hi, hs⟩
theorem CpL.open {H : Hp} {c : Cp} (hc : CpL H c) : ∃ aa ca at1 ct ax cx ar cr an cn ah ch as1 cs, cpV c = .agg #[.slice aa c.att.length ca, .slice at1 c.tk.length ct, .slice ax c.tx.length cx, .slice ar c.rg.length cr, .slice an c.nd.length cn, .slice ah c.hd.length ch, .slice as1 c.rl.length cs] ∧
    SlR H 2 (.slice aa c.att.length ca) c.att.length (c.att.flatMap encAt) ∧ SlR H 1 (.slice at1 c.tk.length ct) c.tk.length (c.tk.flatMap encTk) ∧ RgL H (.slice ax c.tx.length cx) c.tx ∧ RgL H (.slice ar c.rg.length cr) c.rg ∧
    NdL H (.slice an c.nd.length cn) c.nd ∧ InL H (.slice ah c.hd.length ch) c.hd ∧ StL H (.slice as1 c.rl.length cs) c.rl := by
  obtain ⟨aa, ca, h1⟩ := hc.a.len
  obtain ⟨at1, ct, h2⟩ := hc.t.len
  obtain ⟨ax, cx, h3⟩ := hc.x.1.len
  obtain ⟨ar, cr, h4⟩ := hc.r.1.len
  obtain ⟨an, cn, h5⟩ := hc.n.len
  obtain ⟨ah, ch, h6⟩ := hc.h.len
  obtain ⟨as1, cs, h7⟩ := hc.s.len
  exact ⟨aa, ca, at1, ct, ax, cx, ar, cr, an, cn, ah, ch, as1, cs, by unfold cpV; rw [h1, h2, h3, h4, h5, h6, h7], h1 ▸ hc.a, h2 ▸ hc.t, h3 ▸ hc.x, h4 ▸ hc.r, h5 ▸ hc.n, h6 ▸ hc.h, h7 ▸ hc.s⟩
end Go.Proofs.YthacphfjchpoaaaDoor
