/- made corpora: names and values: what is read is in range.
   Plain: the units of a string, as the model decodes them.
   strings: the reference's units; which strings are valid.
   made corpora: a corpus; values, pairs, places in texts.
   made corpora: a corpus; its parts are looked at. -/
import GoSem.Core.Utf8
import Derived.WalkKit
import Derived.Test.YtecogbhbkccblaaGreatDoorG5
set_option maxRecDepth 4000
set_option maxHeartbeats 40000000
set_option linter.all false
namespace Go.Proofs.YtecogbhbkccblaaGreatDoor
open Go.RowKit


theorem byteAt {s : ByteArray} {i : Nat} (h : i < s.size) : ∃ c : UInt8, s.data.toList[i]? = some c := by
  refine ⟨s.data.toList[i]'(by simpa using h), ?_⟩
  rw [List.getElem?_eq_getElem]
/-- may begin, or continue, a name -/
def nmFst (c : Int) : Bool := decide (c = 95) || (decide (65 ≤ c) && decide (c ≤ 90)) || (decide (97 ≤ c) && decide (c ≤ 122))
def nmNxt (c : Int) : Bool := nmFst c || (decide (48 ≤ c) && decide (c ≤ 57)) || decide (c = 45)
def nmB (c : UInt8) : Bool := nmNxt (c.toNat : Int)
def validName (s : ByteArray) : Bool := decide (1 ≤ s.size) && decide (s.size ≤ 32) && (match s.data.toList with | [] => false | c :: l => nmFst (c.toNat : Int) && l.all nmB)
theorem first4_fn (c : Int) (H : Hp) : Fn Tryz.prog 199 #[.int .u8 c] H (fun u _ => u = .bool (nmFst c)) := by
  refine Fn.of_T (vs := [.int .u8 c]) Tryz.func199 rfl rfl fun w => ?_
  unfold nmFst
  refine J9 ?_
  refine T.splitD (d := 5) rfl (fun h0 => ?_) (fun h0 => ?_)
  · refine J17 ?_; (exact T.retF (Lv.fin (RV.tmp rfl rfl) (by congr 1; rw [Bool.eq_iff_iff]; simp <;> omega)))
  · refine J3 ?_
    refine T.splitD (d := 8) rfl (fun h1 => ?_) (fun h1 => ?_)
    · refine J5 ?_
      refine T.splitD (d := 13) rfl (fun h2 => ?_) (fun h2 => ?_)
      · refine J9 ?_; (exact T.retF (Lv.fin (RV.tmp rfl rfl) (by congr 1; rw [Bool.eq_iff_iff]; simp <;> omega)))
      · refine J3 ?_
        refine T.splitD (d := 16) rfl (fun h3 => ?_) (fun h3 => ?_)
        · refine J6 ?_; (exact T.retF (Lv.fin (RV.tmp rfl rfl) (by congr 1; rw [Bool.eq_iff_iff]; simp <;> omega)))
        · refine J6 ?_; (exact T.retF (Lv.fin (RV.tmp rfl rfl) (by congr 1; rw [Bool.eq_iff_iff]; simp <;> omega)))
    · refine J8 ?_; refine T.setF (d := 16) rfl zO ?_; refine J6 ?_; (exact T.retF (Lv.fin (RV.tmp rfl rfl) (by congr 1; rw [Bool.eq_iff_iff]; simp <;> omega)))
theorem next4_fn (c : Int) (H : Hp) : Fn Tryz.prog 200 #[.int .u8 c] H (fun u _ => u = .bool (nmNxt c)) := by
  refine Fn.of_T (vs := [.int .u8 c]) Tryz.func200 rfl rfl fun w => ?_
  unfold nmNxt
  refine J7 ?_; refine T.callV Wanted.none rfl rfl (first4_fn c _) ?_; refine sm ?_
  cases nmFst c
  · refine J3 ?_
    refine T.splitD (d := 8) rfl (fun h0 => ?_) (fun h0 => ?_)
    · refine J5 ?_
      refine T.splitD (d := 13) rfl (fun h1 => ?_) (fun h1 => ?_)
      · refine J5 ?_; (exact T.retF (Lv.fin (RV.tmp rfl rfl) (by congr 1; rw [Bool.eq_iff_iff]; simp <;> omega)))
      · refine J5 ?_; (exact T.retF (Lv.fin (RV.tmp rfl rfl) (by congr 1; rw [Bool.eq_iff_iff]; simp <;> omega)))
    · refine J10 ?_; (exact T.retF (Lv.fin (RV.tmp rfl rfl) (by congr 1; rw [Bool.eq_iff_iff]; simp <;> omega)))
  · refine J13 ?_
    exact T.retF (Lv.fin (RV.tmp rfl rfl) (by simp))
theorem validName_drop {l : List UInt8} {i : Nat} {c : UInt8} (h : l[i]? = some c) : (l.drop i).all nmB = (nmB c && (l.drop (i + 1)).all nmB) := by
  have := List.getElem?_eq_some_iff.1 h
  rw [List.drop_eq_getElem_cons this.1, this.2, List.all_cons]
theorem validName_eq {s : ByteArray} (h : 1 ≤ s.size) (h2 : s.size ≤ 32) {c : UInt8} (h0 : s.data.toList[0]? = some c) : validName s = (nmFst (c.toNat : Int) && (s.data.toList.drop 1).all nmB) := by
  unfold validName
  rw [decide_eq_true h, decide_eq_true h2]
  cases hl : s.data.toList with
  | nil => rw [hl] at h0; cases h0
  | cons a l => rw [hl] at h0; cases h0; simp
theorem name4_fn (s : ByteArray) (H : Hp) : Fn Tryz.prog 151 #[.string s] H (fun u _ => u = .bool (validName s)) := by
  refine Fn.of_T (vs := [.string s]) Tryz.func151 rfl rfl fun w => ?_
  by_cases h1 : s.size < 1
  · refine J11 ?_; refine T.setT (d := 7) rfl zO ?_; refine J16 ?_
    exact T.retF (Lv.fin (RV.tmp rfl rfl) (by unfold validName; simp [show ¬ 1 ≤ s.size by omega]))
  by_cases h2 : 32 < s.size
  · refine J11 ?_; refine T.setF (d := 7) rfl zO ?_; refine J5 ?_; refine T.setT (d := 12) rfl zO ?_; refine J11 ?_
    exact T.retF (Lv.fin (RV.tmp rfl rfl) (by unfold validName; simp [show ¬ s.size ≤ 32 by omega]))
  obtain ⟨c, hc⟩ := byteAt (s := s) (i := 0) zO
  rw [validName_eq zO zO hc]
  have hc' : s.data.toList[(0 : Int).toNat]? = some c := hc
  refine J11 ?_; refine T.setF (d := 7) rfl zO ?_; refine J5 ?_; refine T.setF (d := 12) rfl zO ?_; refine gm ?_; refine gv (PV.indexStr rfl rfl zO zA) ?_; refine T.callV (Wanted.guard rfl rfl rfl) rfl rfl (first4_fn _ _) ?_; refine J3 ?_
  cases hf : nmFst (c.toNat : Int)
  · refine J5 ?_
    exact T.retF (Lv.fin (RV.tmp rfl rfl) (by simp))
  refine J8 ?_; refine T.loopK [(0, Value.string s)] zq8 (γ := Nat) (fun i => 1 ≤ i ∧ i ≤ s.size ∧ (s.data.toList.drop i).all nmB = (s.data.toList.drop 1).all nmB) (fun i => [(3, .int .i64 (i : Int))]) (fun _ => []) (fun _ => H) (fun i => s.size - i) 1 ⟨by omega, by omega, rfl⟩ zq8 zq23 rfl ?_
  rintro i ⟨h3, h4, h5⟩
  by_cases hi : i < s.size
  · obtain ⟨d, hd⟩ := byteAt hi
    rw [validName_drop hd] at h5
    have hd' : s.data.toList[((i : Nat) : Int).toNat]? = some d := by rw [Int.toNat_natCast]; exact hd
    refine J16 ?_; refine yq106 ?_; refine T.callV Wanted.none rfl rfl (next4_fn _ _) ?_; refine J2 ?_
    cases hn : nmNxt (d.toNat : Int)
    · refine J5 ?_
      exact T.retF (Lv.fin (RV.tmp rfl rfl) (by rw [← h5]; unfold nmB; rw [hn]; rfl))
    · refine J8 ?_
      exact T.nextP (i + 1) ⟨by omega, by omega, by rw [← h5]; unfold nmB; rw [hn]; rfl⟩ zO zq8 zq23 rfl
  · refine J14 ?_
    exact T.retF (Lv.fin (RV.tmp rfl rfl) (by rw [← h5, List.drop_of_length_le (by simp; omega)]; rfl))

end Go.Proofs.YtecogbhbkccblaaGreatDoor
namespace Go.Proofs.YtecogbhbkccblaaGreatDoor

structure U where
  r : Nat
  at_ : Nat
  sz : Nat
  deriving DecidableEq

/-- The model's decoding, of bytes and of which of them continue. -/
def dec (b0 b1 b2 b3 : Nat) (c1 c2 c3 : Bool) : Nat × Nat :=
  if b0 < 0x80 then (b0, 1)
  else if b0 / 32 == 6 && c1 then
    if (b0 % 32) * 64 + b1 % 64 ≥ 0x80 then ((b0 % 32) * 64 + b1 % 64, 2) else (0xFFFD, 1)
  else if b0 / 16 == 14 && c1 && c2 then
    if (b0 % 16) * 4096 + (b1 % 64) * 64 + b2 % 64 ≥ 0x800 && Utf8.valid ((b0 % 16) * 4096 + (b1 % 64) * 64 + b2 % 64 : Nat) then ((b0 % 16) * 4096 + (b1 % 64) * 64 + b2 % 64, 3) else (0xFFFD, 1)
  else if b0 / 8 == 30 && c1 && c2 && c3 then
    if (b0 % 8) * 262144 + (b1 % 64) * 4096 + (b2 % 64) * 64 + b3 % 64 ≥ 0x10000 && Utf8.valid ((b0 % 8) * 262144 + (b1 % 64) * 4096 + (b2 % 64) * 64 + b3 % 64 : Nat) then ((b0 % 8) * 262144 + (b1 % 64) * 4096 + (b2 % 64) * 64 + b3 % 64, 4) else (0xFFFD, 1)
  else (0xFFFD, 1)
/-- byte k from i on continues -/
def cont (s : ByteArray) (i k : Nat) : Bool := i + k < s.size && (s.get! (i + k)).toNat / 64 == 2
theorem decode_eq (s : ByteArray) (i : Nat) : Utf8.decode s i = dec (s.get! i).toNat (s.get! (i + 1)).toNat (s.get! (i + 2)).toNat (s.get! (i + 3)).toNat (cont s i 1) (cont s i 2) (cont s i 3) := rfl
theorem valid_nat {n : Nat} (h : Utf8.valid (n : Int) = true) : n ≤ 1114111 ∧ (n < 55296 ∨ 57344 ≤ n) := by
  unfold Utf8.valid at h
  rw [Bool.or_eq_true, Bool.and_eq_true, Bool.and_eq_true] at h
  rcases h with ⟨_, h⟩ | ⟨h, h'⟩
  · have := of_decide_eq_true h
    omega
  · have := of_decide_eq_true h
    have := of_decide_eq_true h'
    omega
theorem dec_width (b0 b1 b2 b3 : Nat) (c1 c2 c3 : Bool) (h0 : b0 < 256) :
    (dec b0 b1 b2 b3 c1 c2 c3).1 ≤ 1114111 ∧ ((dec b0 b1 b2 b3 c1 c2 c3).2 = 1 ∨ ((dec b0 b1 b2 b3 c1 c2 c3).2 = 2 ∧ c1 = true) ∨ ((dec b0 b1 b2 b3 c1 c2 c3).2 = 3 ∧ c1 = true ∧ c2 = true) ∨ ((dec b0 b1 b2 b3 c1 c2 c3).2 = 4 ∧ c1 = true ∧ c2 = true ∧ c3 = true)) := by
  unfold dec
  split
  · exact ⟨by show b0 ≤ _; omega, .inl rfl⟩
  · split
    · rename_i h
      rw [Bool.and_eq_true] at h
      split
      · exact ⟨by show _ ≤ _; omega, .inr (.inl ⟨rfl, h.2⟩)⟩
      · exact ⟨by show 65533 ≤ _; omega, .inl rfl⟩
    · split
      · rename_i h
        rw [Bool.and_eq_true, Bool.and_eq_true] at h
        split
        · exact ⟨by show _ ≤ _; omega, .inr (.inr (.inl ⟨rfl, h.1.2, h.2⟩))⟩
        · exact ⟨by show 65533 ≤ _; omega, .inl rfl⟩
      · split
        · rename_i h
          rw [Bool.and_eq_true, Bool.and_eq_true, Bool.and_eq_true] at h
          split
          · rename_i h'
            rw [Bool.and_eq_true] at h'
            exact ⟨(valid_nat h'.2).1, .inr (.inr (.inr ⟨rfl, h.1.1.2, h.1.2, h.2⟩))⟩
          · exact ⟨by show 65533 ≤ _; omega, .inl rfl⟩
        · exact ⟨by show 65533 ≤ _; omega, .inl rfl⟩
theorem cont_lt {s : ByteArray} {i k : Nat} (h : cont s i k = true) : i + k < s.size := by
  unfold cont at h
  rw [Bool.and_eq_true] at h
  exact of_decide_eq_true h.1
theorem decode_width (s : ByteArray) (p : Nat) (h : p < s.size) : 1 ≤ (Utf8.decode s p).2 ∧ p + (Utf8.decode s p).2 ≤ s.size ∧ (Utf8.decode s p).1 ≤ 1114111 := by
  rw [decode_eq]
  obtain ⟨h1, h2⟩ := dec_width (s.get! p).toNat (s.get! (p + 1)).toNat (s.get! (p + 2)).toNat (s.get! (p + 3)).toNat (cont s p 1) (cont s p 2) (cont s p 3) (UInt8.toNat_lt _)
  refine ⟨?_, ?_, h1⟩
  · rcases h2 with h2 | ⟨h2, _⟩ | ⟨h2, _⟩ | ⟨h2, _⟩ <;> omega
  · rcases h2 with h2 | ⟨h2, h3⟩ | ⟨h2, _, h3⟩ | ⟨h2, _, _, h3⟩
    · omega
    all_goals (have := cont_lt h3; omega)

def unitsFrom (s : ByteArray) : Nat → Nat → List U
  | 0, _ => []
  | n + 1, p => if p < s.size then ⟨(Utf8.decode s p).1, p, (Utf8.decode s p).2⟩ :: unitsFrom s n (p + (Utf8.decode s p).2) else []
def units (s : ByteArray) : List U := unitsFrom s s.size 0

theorem unitsFrom_mem {s : ByteArray} {u : U} : ∀ {n p : Nat}, u ∈ unitsFrom s n p → p ≤ u.at_ ∧ u.at_ < s.size ∧ Utf8.decode s u.at_ = (u.r, u.sz)
  | 0, p, h => by simp [unitsFrom] at h
  | n + 1, p, h => by
    rw [unitsFrom] at h
    split at h
    · rename_i hp
      rcases List.mem_cons.1 h with rfl | h
      · exact ⟨Nat.le_refl _, hp, rfl⟩
      · obtain ⟨h1, h2, h3⟩ := unitsFrom_mem h
        exact ⟨by omega, h2, h3⟩
    · cases h
theorem dec_le4 (b0 b1 b2 b3 : Nat) (c1 c2 c3 : Bool) (h0 : b0 < 256) : (dec b0 b1 b2 b3 c1 c2 c3).2 ≤ 4 := by
  rcases (dec_width b0 b1 b2 b3 c1 c2 c3 h0).2 with h | ⟨h, _⟩ | ⟨h, _⟩ | ⟨h, _⟩ <;> omega
theorem decode_le4 (s : ByteArray) (p : Nat) : (Utf8.decode s p).2 ≤ 4 := by rw [decode_eq]; exact dec_le4 _ _ _ _ _ _ _ (UInt8.toNat_lt _)
theorem units_mem {s : ByteArray} {u : U} (h : u ∈ units s) : u.at_ + u.sz ≤ s.size ∧ 1 ≤ u.sz ∧ u.sz ≤ 4 ∧ u.r ≤ 1114111 ∧ Utf8.decode s u.at_ = (u.r, u.sz) := by
  obtain ⟨_, h2, h3⟩ := unitsFrom_mem h
  obtain ⟨d1, d2, d3⟩ := decode_width s u.at_ h2
  have d4 := decode_le4 s u.at_
  rw [h3] at d1 d2 d3 d4
  exact ⟨d2, d1, d4, d3, h3⟩
/-- a unit's bytes -/
def piece (s : ByteArray) (u : U) : List UInt8 := (s.data.toList.drop u.at_).take u.sz
theorem piece_extract (s : ByteArray) (u : U) : (s.extract u.at_ (u.at_ + u.sz)).data.toList = piece s u := by
  have : (s.extract u.at_ (u.at_ + u.sz)).data = s.data.extract u.at_ (u.at_ + u.sz) := by simp
  rw [this]; simp [piece, List.drop_take]
theorem extract_piece (s : ByteArray) (u : U) : s.extract (u.at_ : Int).toNat ((u.at_ : Int) + (u.sz : Int)).toNat = ⟨(piece s u).toArray⟩ := by
  have h := piece_extract s u
  have e1 : (u.at_ : Int).toNat = u.at_ := by omega
  have e2 : ((u.at_ : Int) + (u.sz : Int)).toNat = u.at_ + u.sz := by omega
  rw [e1, e2, ← h]
theorem piece_le (s : ByteArray) (u : U) : (piece s u).length ≤ u.sz := by simp [piece]; omega
def revL (s : ByteArray) : List UInt8 := (units s).reverse.flatMap (piece s)
theorem flat_le {α : Type} {f : α → List UInt8} {m : Nat} : ∀ (l : List α), (∀ x ∈ l, (f x).length ≤ m) → (l.flatMap f).length ≤ m * l.length
  | [], _ => by simp
  | x :: l, h => by
    have h1 := h x List.mem_cons_self
    have h2 := flat_le l (fun y hy => h y (List.mem_cons_of_mem _ hy))
    rw [List.flatMap_cons, List.length_append, List.length_cons, Nat.mul_add]; omega
end Go.Proofs.YtecogbhbkccblaaGreatDoor
namespace Go.Proofs.YtecogbhbkccblaaGreatDoor
open Go.RowKit


def okU (u : U) : Bool := decide (u.r ≠ 65533) || decide (u.sz = 3)
def validS (s : ByteArray) : Bool := (units s).all okU
theorem unitsFrom_len (s : ByteArray) : ∀ n p, p ≤ s.size → (unitsFrom s n p).length ≤ s.size - p
  | 0, p, _ => by simp [unitsFrom]
  | n + 1, p, h => by
    rw [unitsFrom]
    split
    · rename_i hp
      obtain ⟨d1, d2, d3⟩ := decode_width s p hp
      have := unitsFrom_len s n (p + (Utf8.decode s p).2) d2
      rw [List.length_cons]; omega
    · simp
theorem units_len (s : ByteArray) : (units s).length ≤ s.size := by have := unitsFrom_len s s.size 0 zO; simpa [units] using this

def encA (u : U) : List Value := [.int .i32 (u.r : Int), .int .i64 (u.at_ : Int), .int .i64 (u.sz : Int), .bool false]
def encF (u : U) : List Value := [.int .i32 (u.r : Int), .int .i64 (u.at_ : Int), .int .i64 (u.sz : Int), .bool (okU u)]
def encZ (r a : Nat) : List Value := [.int .i32 (r : Int), .int .i64 (a : Int), .int .i64 0, .bool false]
theorem encA_len (u : U) : (encA u).length = 4 := rfl
theorem encF_len (u : U) : (encF u).length = 4 := rfl
theorem one_encA (u : U) : ∀ v ∈ encA u, v.oneCell' = true := by intro v hv; simp [encA] at hv; rcases hv with rfl | rfl | rfl | rfl <;> rfl
theorem idx_app {pre l : List Value} {m i : Nat} (h : pre.length = m) : (pre ++ l)[m + i]? = l[i]? := by subst h; rw [List.getElem?_append_right zO]; congr 1; omega
theorem set_app {pre l : List Value} {m i : Nat} {v : Value} (h : pre.length = m) : (pre ++ l).set (m + i) v = pre ++ l.set i v := by subst h; rw [List.set_append_right _ _ zO]; congr 2; omega
theorem take_flat {us : List U} {k : Nat} {u : U} (f : U → List Value) (h : us[k]? = some u) : (us.take (k + 1)).flatMap f = (us.take k).flatMap f ++ f u := by rw [List.take_add_one, h]; simp
theorem take_flat_len {us : List U} {k : Nat} (f : U → List Value) (hf : ∀ u, (f u).length = 4) (h : k ≤ us.length) : ((us.take k).flatMap f).length = k * 4 := by rw [flat_len hf, List.length_take]; congr 1; omega
structure VG where
  n : Nat
  p : Nat
  k : Nat
  v : Value
  lv : List (Nat × Obj)

theorem refUnits_fn (s : ByteArray) (H : Hp) (hs : s.size ≤ 20000) : Fn Tryz.prog 236 #[.string s] H (fun v H' => SlR H' 4 v (units s).length ((units s).flatMap encF)) := by
  refine Fn.of_T (vs := [.string s]) Tryz.func236 rfl rfl fun w => ?_; refine J12 ?_; (refine T.rangeStr Wanted.none rfl rfl ?_; intro b8); refine J2 ?_
  have hul := units_len s
  refine T.loop (γ := VG) (fun g => s.size ≤ g.p + g.n ∧ g.p ≤ s.size ∧ g.k ≤ (units s).length ∧
      ((g.k = 0 ∧ g.p = 0 ∧ units s = unitsFrom s g.n 0 ∧ Vec 303 4 g.v g.lv 0 []) ∨ ∃ k r a : Nat, g.k = k + 1 ∧ a ≤ g.p ∧ (units s).drop k = ⟨r, a, g.p - a⟩ :: unitsFrom s g.n g.p ∧ Vec 303 4 g.v g.lv (k + 1) (((units s).take k).flatMap encA ++ encZ r a)))
    (fun g => [(0, .string s), (3, g.v), (8, .pointer (some ⟨b8, 0, none⟩))])
    (fun g => (b8, .stringIter s g.p) :: g.lv) (fun _ => H) (fun g => g.n) ⟨s.size, 0, 0, .slice none 0 0, []⟩ ⟨by simp, by simp, by simp, .inl ⟨rfl, rfl, rfl, Vec.nil _ _⟩⟩ zq8 zq4 rfl ?_
  rintro ⟨n, p, k, v, lv⟩ ⟨h1, h2, h3, h4⟩
  dsimp only at h1 h2 h3 h4 ⊢
  refine zs3 ?_
  by_cases hp : p < s.size
  · obtain ⟨d1, d2, d3⟩ := decode_width s p hp
    obtain ⟨rr, wd, hd⟩ : ∃ r wd, Utf8.decode s p = (r, wd) := ⟨_, _, rfl⟩
    rw [hd] at d1 d2 d3
    dsimp only at d1 d2 d3
    obtain ⟨n, rfl⟩ : ∃ m, n = m + 1 := ⟨n - 1, by omega⟩
    refine T.nextStr zq22 rfl rfl zA zA zq14 ?_
    rcases h4 with ⟨rfl, rfl, h5, hv⟩ | ⟨k, r, a, rfl, ha, h5, hv⟩
    · obtain ⟨ad, cap, rfl⟩ := hv.val
      refine J26 ?_; refine yq39 ?_; (refine T.buildSlice Wanted.none rfl rfl zq11 zX zX ?_; intro b35); refine T.appendE [_, _] Wanted.none rfl rfl rfl hv (Src.cells (m := 1) (ys := encZ rr 0) (.own zq2) rfl rfl) (fun v hv => one_encA ⟨rr, 0, 0⟩ v (by simpa [encA, encZ] using hv)) zO ?_
      intro v' lv' hv' hnil
      refine J3 ?_
      refine T.next ⟨n, 0 + wd, 1, v', lv'⟩ ⟨by dsimp only; omega, by dsimp only; omega, ?_, .inr ⟨0, rr, 0, rfl, by dsimp only; omega, ?_, ?_⟩⟩ zE zq8 zq4 rfl
      · dsimp only; rw [h5, unitsFrom, if_pos hp]; simp
      · dsimp only; rw [h5, unitsFrom, if_pos hp, hd]; simp
      · simpa using hv'
    · obtain ⟨b, cap, rfl⟩ := hv.ptr zO
      have hk : (units s)[k]? = some ⟨r, a, p - a⟩ := by have := congrArg (fun l => l[0]?) h5; simpa using this
      have hpl := take_flat_len (k := k) (us := units s) encA encA_len zO
      have hld : (((units s).take k).flatMap encA ++ encZ r a)[0 + (((k + 1 : Nat) : Int) - 1).toNat * 4 + 1]? = some (.int .i64 a) := by
        rw [show 0 + (((k + 1 : Nat) : Int) - 1).toNat * 4 + 1 = k * 4 + 1 by omega, idx_app hpl]; rfl
      refine J33 ?_; refine yq92 ?_; refine J3 ?_; refine T.storeVecE [_] Wanted.none rfl rfl rfl hv (by rw [List.length_append, hpl]; simp [encZ] <;> omega) ?_
      intro lv1 hv1
      rw [show 0 + (((k + 1 : Nat) : Int) - 1).toNat * 4 + 2 = k * 4 + 2 by omega, set_app hpl] at hv1
      have hx1 : ((units s).take k).flatMap encA ++ (encZ r a).set 2 (.int .i64 ((p : Int) - a)) = ((units s).take (k + 1)).flatMap encA := by
        rw [take_flat encA hk]
        have : ((p - a : Nat) : Int) = (p : Int) - a := by omega
        simp [encZ, encA, this]
      rw [hx1] at hv1
      refine J5 ?_; refine yq39 ?_; (refine T.buildSlice Wanted.none rfl rfl zq11 zX zX ?_; intro b35); refine T.appendE [_, _] Wanted.none rfl rfl rfl hv1 (Src.cells (m := 1) (ys := encZ rr p) (.own zq2) rfl rfl) (fun v hv => one_encA ⟨rr, p, 0⟩ v (by simpa [encA, encZ] using hv)) zO ?_
      intro v' lv' hv' hnil
      refine J3 ?_
      have h8 : (units s).drop (k + 1) = unitsFrom s (n + 1) p := by rw [← List.drop_drop, h5]; rfl
      have h9 : (units s).drop (k + 1) = ⟨rr, p, wd⟩ :: unitsFrom s n (p + wd) := by rw [h8, unitsFrom, if_pos hp, hd]
      have h10 : (units s)[k + 1]? = some ⟨rr, p, wd⟩ := by have := congrArg (fun l => l[0]?) h9; simpa using this
      have h11 := (List.getElem?_eq_some_iff.1 h10).1
      refine T.next ⟨n, p + wd, k + 1 + 1, v', lv'⟩ ⟨by dsimp only; omega, by dsimp only; omega, by dsimp only; omega, .inr ⟨k + 1, rr, p, rfl, by dsimp only; omega, ?_, ?_⟩⟩ zE zq8 zq4 rfl
      · dsimp only; rw [h9, Nat.add_sub_cancel_left]
      · exact hv'
  · refine T.nextStrEnd zq22 rfl rfl zq2 zO ?_
    rcases h4 with ⟨rfl, rfl, h5, hv⟩ | ⟨k, r, a, rfl, ha, h5, hv⟩
    · obtain ⟨ad, cap, rfl⟩ := hv.val
      have h0 : units s = [] := by rw [h5]; cases n <;> simp [unitsFrom, hp]
      refine J22 ?_; refine T.loop (γ := Unit) (fun _ => True) (fun _ => [(57, .int .i64 0), (58, .int .i64 0), (3, .slice ad 0 cap)]) (fun _ => lv) (fun _ => H) (fun _ => 0) () trivial zq8 zq4 rfl ?_
      intro _ _
      refine J12 ?_
      rw [h0]
      exact T.retF (Vec.freezeLv (l' := []) hv (by rw [List.append_nil]; exact zq4) fun H' _ hsl => Lv.fin (RV.tmp rfl rfl) hsl)
    · obtain ⟨b, cap, rfl⟩ := hv.ptr zO
      have hp0 : p = s.size := by omega
      have h8 : unitsFrom s n p = [] := by cases n <;> simp [unitsFrom, hp]
      rw [h8] at h5
      have hk : (units s)[k]? = some ⟨r, a, p - a⟩ := by have := congrArg (fun l => l[0]?) h5; simpa using this
      have hlen : (units s).length = k + 1 := by
        have := congrArg List.length h5
        simp at this
        have h9 := (List.getElem?_eq_some_iff.1 hk).1
        omega
      have hpl := take_flat_len (k := k) (us := units s) encA encA_len zO
      have hld : (((units s).take k).flatMap encA ++ encZ r a)[0 + (((k + 1 : Nat) : Int) - 1).toNat * 4 + 1]? = some (.int .i64 a) := by
        rw [show 0 + (((k + 1 : Nat) : Int) - 1).toNat * 4 + 1 = k * 4 + 1 by omega, idx_app hpl]; rfl
      refine J26 ?_; refine yq92 ?_; refine J3 ?_; refine T.storeVecE [_] Wanted.none rfl rfl rfl hv (by rw [List.length_append, hpl]; simp [encZ] <;> omega) ?_
      intro lv1 hv1
      rw [show 0 + (((k + 1 : Nat) : Int) - 1).toNat * 4 + 2 = k * 4 + 2 by omega, set_app hpl] at hv1
      have hx1 : ((units s).take k).flatMap encA ++ (encZ r a).set 2 (.int .i64 ((s.size : Int) - a)) = (units s).flatMap encA := by
        have h9 : (units s).take (k + 1) = units s := List.take_of_length_le zO
        have := take_flat encA hk
        rw [h9] at this
        rw [this]
        have : ((p - a : Nat) : Int) = (s.size : Int) - a := by omega
        simp [encZ, encA, this]
      rw [hx1] at hv1
      refine J9 ?_
      refine T.loop (γ := Nat × List (Nat × Obj)) (fun g => g.1 ≤ k + 1 ∧ Vec 303 4 (.slice (some ⟨b, 0, none⟩) (k + 1) cap) g.2 (k + 1) (((units s).take g.1).flatMap encF ++ ((units s).drop g.1).flatMap encA))
        (fun g => [(57, .int .i64 ((k + 1 : Nat) : Int)), (58, .int .i64 (g.1 : Int)), (3, .slice (some ⟨b, 0, none⟩) (k + 1) cap)]) (fun g => g.2) (fun _ => H) (fun g => k + 1 - g.1) (0, lv1) ⟨by simp, by simpa using hv1⟩ zq8 zq4 rfl ?_
      rintro ⟨i, lv⟩ ⟨g1, g2⟩
      dsimp only at g1 g2 ⊢
      by_cases hi : i < k + 1
      · obtain ⟨x, hx⟩ : ∃ x, (units s)[i]? = some x := ⟨_, List.getElem?_eq_getElem zO⟩
        have hfl := take_flat_len (k := i) (us := units s) encF encF_len zO
        have hdr : (units s).drop i = x :: (units s).drop (i + 1) := by
          rw [List.drop_eq_getElem_cons zO, (List.getElem?_eq_some_iff.1 hx).2]
        rw [hdr, List.flatMap_cons] at g2
        have hi1 : ∀ f, 0 + ((i : Nat) : Int).toNat * 4 + f = i * 4 + f := fun f => by omega
        have hl0 : (((units s).take i).flatMap encF ++ (encA x ++ ((units s).drop (i + 1)).flatMap encA))[0 + ((i : Nat) : Int).toNat * 4 + 0]? = some (.int .i32 x.r) := by rw [hi1, idx_app hfl]; rfl
        have hl2 : (((units s).take i).flatMap encF ++ (encA x ++ ((units s).drop (i + 1)).flatMap encA))[0 + ((i : Nat) : Int).toNat * 4 + 2]? = some (.int .i64 x.sz) := by rw [hi1, idx_app hfl]; rfl
        have hset : ∀ v : Value, v = .bool (okU x) → (((units s).take i).flatMap encF ++ (encA x ++ ((units s).drop (i + 1)).flatMap encA)).set (0 + ((i : Nat) : Int).toNat * 4 + 3) v = ((units s).take (i + 1)).flatMap encF ++ ((units s).drop (i + 1)).flatMap encA := by
          rintro v rfl
          rw [hi1, set_app hfl, take_flat encF hx]
          simp [encA, encF]
        have hlen4 : (0 + ((i : Nat) : Int).toNat * 4 + 3) < (((units s).take i).flatMap encF ++ (encA x ++ ((units s).drop (i + 1)).flatMap encA)).length := by
          rw [hi1, List.length_append, List.length_append, hfl, encA_len]; omega
        by_cases hr : x.r = 65533
        · have hr1 : decide ((x.r : Int) ≠ 65533) = false := by simp [hr]
          refine J21 ?_; refine yq92 ?_; refine J2 ?_; refine yq69 ?_; refine T.pv (PV.indexAddr rfl rfl zO) (Wanted.guard rfl rfl zA) rfl rfl ?_; refine T.pv (PV.fieldAddr rfl) (Wanted.guard rfl rfl zA) rfl rfl ?_; refine T.pv (PV.loadVec rfl zA zq4 zA) (Wanted.guard rfl rfl zA) rfl rfl ?_; refine T.pv (PV.eql rfl rfl) (Wanted.guard rfl rfl zA) rfl rfl ?_; refine yq90 ?_; refine J2 ?_; refine T.storeVecE [] Wanted.none rfl rfl rfl g2 hlen4 ?_
          intro lv2 hv2
          rw [hset _ (by simp only [okU, hr]; rw [Value.bool.injEq]; simp; omega)] at hv2
          refine J6 ?_
          refine T.next (i + 1, lv2) ⟨by dsimp only; omega, hv2⟩ zE zq8 zq4 rfl
        · have hr1 : decide ((x.r : Int) ≠ 65533) = true := by simp; omega
          refine J21 ?_; refine yq92 ?_; refine J2 ?_; refine yq5 ?_; refine yq5 ?_; refine yq5 ?_; refine sv (PV.pickT rfl zA rfl) ?_; refine J2 ?_; refine T.storeVecE [] Wanted.none rfl rfl rfl g2 hlen4 ?_
          intro lv2 hv2
          rw [hset _ (by simp [okU, hr])] at hv2
          refine J6 ?_
          refine T.next (i + 1, lv2) ⟨by dsimp only; omega, hv2⟩ zE zq8 zq4 rfl
      · obtain rfl : i = k + 1 := by omega
        rw [List.take_of_length_le zO, List.drop_of_length_le zO, List.flatMap_nil, List.append_nil] at g2
        refine J12 ?_
        rw [hlen]
        exact T.retF (Vec.freezeLv (l' := []) g2 (by rw [List.append_nil]; exact zq4) fun H' _ hsl => Lv.fin (RV.tmp rfl rfl) hsl)

theorem refValid_fn (s : ByteArray) (H : Hp) (hs : s.size ≤ 20000) : Fn Tryz.prog 224 #[.string s] H (fun v _ => v = .bool (validS s)) := by
  refine Fn.of_T (vs := [.string s]) Tryz.func224 rfl rfl fun w => ?_; refine J8 ?_; refine T.call Wanted.none rfl rfl (refUnits_fn s H hs) ?_
  intro vl H1 hH1 hsl
  obtain ⟨adl, capl, rfl⟩ := hsl.len
  have hul := units_len s
  refine J4 ?_
  refine T.loop (γ := Nat) (fun i => i ≤ (units s).length ∧ ((units s).take i).all okU = true)
    (fun i => [(8, .int .i64 (i : Int)), (7, .int .i64 ((units s).length : Int)), (6, .slice adl (units s).length capl)])
    (fun _ => []) (fun _ => H1) (fun i => (units s).length - i) 0 ⟨by simp, by simp⟩ zq8 zq4 rfl ?_
  rintro i ⟨h1, h2⟩
  by_cases hi : i < (units s).length
  · obtain ⟨x, hx⟩ : ∃ x, (units s)[i]? = some x := ⟨_, List.getElem?_eq_getElem hi⟩
    obtain ⟨b, off, cap', hve, hsub⟩ := hsl.elem (i := i) zO (flat_elem encF_len (units s) i x hx)
    injection hve with e1 e2 e3
    subst e1 e3
    refine J12 ?_; refine yq20 ?_; refine sy fun b4 => ?_; refine yq2 ?_; refine J7 ?_
    refine T.cond rfl (fun hc => ?_) (fun hc => ?_)
    · refine J4 ?_
      refine T.retF (Lv.fin (RV.tmp rfl rfl) ?_)
      rw [validS]
      congr 1
      symm
      rw [Bool.eq_false_iff]
      intro hall
      rw [List.all_eq_true.1 hall x (List.mem_of_getElem? hx)] at hc
      simp at hc
    · refine J6 ?_
      refine T.next (i + 1) ⟨by omega, ?_⟩ zO zq8 zq4 rfl
      rw [List.take_add_one, hx, List.all_append, h2]
      simpa using hc
  · refine J11 ?_
    refine T.retF (Lv.fin (RV.tmp rfl rfl) ?_)
    rw [List.take_of_length_le zO] at h2
    rw [validS, h2]

end Go.Proofs.YtecogbhbkccblaaGreatDoor
namespace Go.Proofs.YtecogbhbkccblaaGreatDoor
open Go.RowKit


theorem bytes_elem {l : List UInt8} {i : Nat} {c : UInt8} (hc : l[i]? = some c) : ((bytesV l).drop (i * 1)).take 1 = [.int .u8 (c.toNat : Int)] := by
  have h1 : ∀ l : List UInt8, (l.flatMap fun b : UInt8 => [Value.int .u8 (b.toNat : Int)]) = bytesV l := by
    intro l
    induction l with
    | nil => rfl
    | cons a l ih => rw [List.flatMap_cons, ih]; rfl
  have := flat_elem (f := fun b : UInt8 => [Value.int .u8 (b.toNat : Int)]) (sz := 1) (fun _ => rfl) l i c hc
  rw [h1] at this
  exact this
theorem validValue_fn (s : ByteArray) (H : Hp) : Fn Tryz.prog 202 #[.string s] H (fun u _ => IsI u) := by
  refine Fn.of_T (vs := [.string s]) Tryz.func202 rfl rfl fun w => ?_
  by_cases h1 : 120 < s.size
  · refine J16 ?_
    exact T.retF (Lv.fin (RV.tmp rfl rfl) ⟨_, rfl⟩)
  refine J17 ?_; refine T.callX Wanted.none rfl rfl ((refValid_fn s H zO).mono (R' := fun u _ => IsB u) fun u _ h => ⟨_, h⟩) ?_
  rintro _ ⟨b, rfl⟩
  refine J2 ?_
  refine T.cond rfl (fun hc => ?_) (fun hc => ?_)
  · refine J4 ?_
    exact T.retF (Lv.fin (RV.tmp rfl rfl) ⟨_, rfl⟩)
  refine J5 ?_; refine T.strBytes Wanted.none rfl rfl ?_
  intro b12 cap12 H1 hle1 hcap hsl
  refine J4 ?_; refine T.loopR [(13, Value.int IntKind.i64 (↑s.size : Int)), (12, Value.slice (some { block := b12, off := 0 }) s.size cap12)] zq8 14 s.size rfl ?_
  intro i hi0
  by_cases hi : i < s.size
  · obtain ⟨c, hc⟩ := byteAt hi
    have hsub : SubC H1 b12 (0 + i * 1) [.int .u8 (c.toNat : Int)] := by
      have hel := bytes_elem hc
      obtain ⟨b', o', cap', hve, hs⟩ := hsl.elem hi hel
      injection hve with e1 e2 e3
      injection e1 with e1
      injection e1 with e1 e4
      subst e1 e4
      exact hs
    refine J12 ?_; refine yq10 ?_; refine J7 ?_
    refine T.splitD (d := 20) rfl (fun h0 => ?_) (fun h0 => ?_)
    · refine J9 ?_
      (first | exact T.retF (Lv.fin (RV.tmp rfl rfl) ⟨_, rfl⟩) | exact T.nextR zO rfl zq8 zq23)
    · refine J4 ?_
      refine T.condD rfl (fun h1 => ?_) (fun h1 => ?_)
      · refine J4 ?_
        (first | exact T.retF (Lv.fin (RV.tmp rfl rfl) ⟨_, rfl⟩) | exact T.nextR zO rfl zq8 zq23)
      · refine J6 ?_
        (first | exact T.retF (Lv.fin (RV.tmp rfl rfl) ⟨_, rfl⟩) | exact T.nextR zO rfl zq8 zq23)
  · refine J11 ?_
    exact T.retF (Lv.fin (RV.tmp rfl rfl) ⟨_, rfl⟩)
structure PaG where
  i : Nat
  f : Nat
  v : Value
  lv : List (Nat × Obj)
  l : List ByteArray
end Go.Proofs.YtecogbhbkccblaaGreatDoor
namespace Go.Proofs.YtecogbhbkccblaaGreatDoor
open Go.RowKit


def encAt (a : ByteArray × Bool) : List Value := [.string a.1, .bool a.2]
theorem encAt_len (a : ByteArray × Bool) : (encAt a).length = 2 := rfl
structure Tk where
  v : Value
  ss : List ByteArray
def encTk (t : Tk) : List Value := [t.v]
theorem encTk_len (t : Tk) : (encTk t).length = 1 := rfl
structure Cp where
  va : Value
  att : List (ByteArray × Bool)
  vt : Value
  tk : List Tk
  vx : Value
  tx : List Rg
  vr : Value
  rg : List Rg
  vn : Value
  nd : List Nd
  vh : Value
  hd : List Int
  vs : Value
  rl : List ByteArray
def cpV (c : Cp) : Value := .agg #[c.va, c.vt, c.vx, c.vr, c.vn, c.vh, c.vs]
/-- where element i of a list lies, and what it is -/
theorem RowL.get {α : Type} {enc : α → List Value} {sz : Nat} (hf : ∀ x, (enc x).length = sz) {H : Hp} {ad : Option Addr} {n cap : Nat} {l : List α} (h : SlR H sz (.slice ad n cap) l.length (l.flatMap enc)) {i : Nat} (hi : i < l.length) : ∃ b off x, ad = some ⟨b, off, none⟩ ∧ l[i]? = some x ∧ SubC H b (off + i * sz) (enc x) := by
  obtain ⟨b, off, e, hs⟩ := RowL.at hf h (List.getElem?_eq_getElem hi)
  exact ⟨b, off, _, e, List.getElem?_eq_getElem hi, hs⟩
end Go.Proofs.YtecogbhbkccblaaGreatDoor
