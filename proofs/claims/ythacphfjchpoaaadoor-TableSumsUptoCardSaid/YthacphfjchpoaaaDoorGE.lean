/- The shelf's contracts, laid at this program (written by the kit's command).
   numbers as texts: strconv.Itoa by the shelf's contract.
   table: keys, rows, their order and their sums: plain law.
   table: valid tables: plain law.
   Own layer: maps with strings for keys.
   lines: Hash.
   lines: the reference's Decimal. -/
import Derived.Shelf.LaysM
import Derived.Test.YthacphfjchpoaaaDoorProg
import Derived.Shelf.Strconv.Itoa3
import Derived.Lib.Bytealg
import Derived.Lib.ItoaNum
import Derived.MapKept
import Derived.Lib.ItoaLen
import Derived.Test.YthacphfjchpoaaaDoorFKS
import Derived.Test.YthacphfjchpoaaaDoorGC
namespace Go.Proofs.YthacphfjchpoaaaDoor
open Go.Proofs Go.Shelf

def Tryd.itoaL_ren : Go.Shelf.Ren := ⟨fun | 171 => 70 | 243 => 88 | 246 => 98 | 283 => 76 | 284 => 77 | 285 => 78 | 286 => 79 | 129 => 59 | 317 => 90 | 318 => 91 | 319 => 92 | 320 => 93 | 337 => 99 | 338 => 100 | n => n, fun | 3 => 3 | 9 => 9 | 2 => 2 | 4 => 4 | 171 => 125 | 0 => 0 | 53 => 101 | 37 => 70 | 5 => 5 | 173 => 127 | 212 => 145 | 51 => 99 | 20 => 20 | 213 => 146 | 46 => 81 | 232 => 157 | 233 => 158 | n => n, fun | 17 => 0 | 18 => 1 | 19 => 2 | n => n⟩
theorem Tryd.itoaL : Go.Proofs.LaysM.n171 Tryd.prog Tryd.itoaL_ren := {
  mixed := by kernel_rfl,
  f129 := Tryd.func59.trans (congrArg some (by kernel_rfl)),
  f171 := Tryd.func70.trans (congrArg some (by kernel_rfl)),
  f243 := Tryd.func88.trans (congrArg some (by kernel_rfl)),
  f246 := Tryd.func98.trans (congrArg some (by kernel_rfl)),
  f283 := Tryd.func76.trans (congrArg some (by kernel_rfl)),
  f284 := Tryd.func77.trans (congrArg some (by kernel_rfl)),
  f285 := Tryd.func78.trans (congrArg some (by kernel_rfl)),
  f286 := Tryd.func79.trans (congrArg some (by kernel_rfl)),
  f317 := Tryd.func90.trans (congrArg some (by kernel_rfl)),
  f318 := Tryd.func91.trans (congrArg some (by kernel_rfl)),
  f319 := Tryd.func92.trans (congrArg some (by kernel_rfl)),
  f320 := Tryd.func93.trans (congrArg some (by kernel_rfl)),
  f337 := Tryd.func99.trans (congrArg some (by kernel_rfl)),
  f338 := Tryd.func100.trans (congrArg some (by kernel_rfl)),
  t0 := Tryd.underlying0,
  a0 := Tryd.isAgg0,
  z0 := Tryd.sizeOf0,
  v0 := Tryd.zeroValue0,
  t2 := Tryd.underlying2,
  a2 := Tryd.isAgg2,
  z2 := Tryd.sizeOf2,
  v2 := Tryd.zeroValue2,
  t3 := Tryd.underlying3,
  a3 := Tryd.isAgg3,
  z3 := Tryd.sizeOf3,
  v3 := Tryd.zeroValue3,
  t4 := Tryd.underlying4,
  a4 := Tryd.isAgg4,
  z4 := Tryd.sizeOf4,
  v4 := Tryd.zeroValue4,
  t5 := Tryd.underlying5,
  a5 := Tryd.isAgg5,
  z5 := Tryd.sizeOf5,
  v5 := Tryd.zeroValue5,
  t9 := Tryd.underlying9,
  a9 := Tryd.isAgg9,
  z9 := Tryd.sizeOf9,
  v9 := Tryd.zeroValue9,
  t20 := Tryd.underlying20,
  a20 := Tryd.isAgg20,
  z20 := Tryd.sizeOf20,
  v20 := Tryd.zeroValue20,
  t37 := Tryd.underlying70,
  a37 := Tryd.isAgg70,
  z37 := Tryd.sizeOf70,
  v37 := Tryd.zeroValue70,
  t46 := Tryd.underlying81,
  a46 := Tryd.isAgg81,
  z46 := Tryd.sizeOf81,
  v46 := Tryd.zeroValue81,
  t51 := Tryd.underlying99,
  a51 := Tryd.isAgg99,
  z51 := Tryd.sizeOf99,
  v51 := Tryd.zeroValue99,
  t53 := Tryd.underlying101,
  a53 := Tryd.isAgg101,
  z53 := Tryd.sizeOf101,
  v53 := Tryd.zeroValue101,
  t171 := Tryd.underlying125,
  a171 := Tryd.isAgg125,
  z171 := Tryd.sizeOf125,
  v171 := Tryd.zeroValue125,
  t173 := Tryd.underlying127,
  a173 := Tryd.isAgg127,
  z173 := Tryd.sizeOf127,
  v173 := Tryd.zeroValue127,
  t212 := Tryd.underlying145,
  a212 := Tryd.isAgg145,
  z212 := Tryd.sizeOf145,
  v212 := Tryd.zeroValue145,
  t213 := Tryd.underlying146,
  a213 := Tryd.isAgg146,
  z213 := Tryd.sizeOf146,
  t232 := Tryd.underlying157,
  a232 := Tryd.isAgg157,
  z232 := Tryd.sizeOf157,
  v232 := Tryd.zeroValue157,
  t233 := Tryd.underlying158,
  a233 := Tryd.isAgg158,
  z233 := Tryd.sizeOf158,
  v233 := Tryd.zeroValue158,
  g17 := by kernel_rfl,
  g18 := by kernel_rfl,
  g19 := by kernel_rfl,
  i0 := by kernel_rfl,
  i2 := by kernel_rfl,
  i3 := by kernel_rfl,
  i4 := by kernel_rfl,
  i5 := by kernel_rfl,
  i9 := by kernel_rfl,
  i20 := by kernel_rfl,
  i37 := by kernel_rfl,
  i46 := by kernel_rfl,
  i51 := by kernel_rfl,
  i53 := by kernel_rfl,
  i171 := by kernel_rfl,
  i173 := by kernel_rfl,
  i212 := by kernel_rfl,
  i232 := by kernel_rfl,
  i233 := by kernel_rfl,
  m17 := by kernel_rfl,
  m18 := by kernel_rfl,
  m19 := by kernel_rfl }
end Go.Proofs.YthacphfjchpoaaaDoor
namespace Go.Proofs.YthacphfjchpoaaaDoor
open Go.RowKit


/-- the library's table of powers lies in the heap -/
def PowT (H : Hp) : Prop := ∃ t fz, H 0 = some (.cells (Lib.pow10Tab.map fun z => Value.int .u64 z).toArray t fz)
theorem PowT.mono {H H' : Hp} (h : PowT H) (hl : H.le H') : PowT H' := by
  obtain ⟨t, fz, h⟩ := h
  exact ⟨t, fz, hl _ _ h⟩
def itoaB (n : Int) : ByteArray := ⟨(Lib.itoa n).toArray⟩
theorem itoa_fn (n : Int) (H : Hp) (hT : PowT H) (hn : -9223372036854775808 ≤ n ∧ n ≤ 9223372036854775807) : Fn Tryd.prog 70 #[.int .i64 n] H (fun u _ => u = .string (itoaB n)) := Fn.mk fun w hw => by
  obtain ⟨t, fz, hg⟩ := hT
  have hb := hw _ _ hg
  refine callsIn_wide.2 ((Go.Proofs.Any.strconv_Itoa (ρ := Tryd.itoaL_ren) Tryd.itoaL n hn.1 hn.2 w ?_).mono ?_)
  · unfold Lib.TabIs World.var?
    rw [Option.bind_eq_some_iff]
    exact ⟨0, by kernel_rfl, by rw [hb]⟩
  · rintro e w' ⟨rfl, k, os, rfl⟩
    have hlt : ∀ b o, w.heap[b]? = some o → b < w.heap.size := fun b o h => (Array.getElem?_eq_some_iff.1 h).1
    have hh : ∀ b, b < w.heap.size → (Go.Sort.grow (w.drewN k) os).heap[b]? = w.heap[b]? := fun b h => by
      show (w.heap ++ os)[b]? = _
      exact Array.getElem?_append_left h
    refine ⟨_, H, rfl, fun _ _ => rfl, fun b o h => (hh b (hlt b o (hw b o h))).trans (hw b o h), ⟨rfl, rfl, rfl, ?_, ?_, fun b hb _ => hh b hb⟩, rfl⟩
    · show w.heap.size ≤ (w.heap ++ os).size
      simp
    · show w.drawn ≤ w.drawn + k
      omega

end Go.Proofs.YthacphfjchpoaaaDoor
namespace Go.Proofs.YthacphfjchpoaaaDoor

/-! ### the order of strings -/
def cS (a b : ByteArray) : Int := Lib.compareBytes a.data.toList b.data.toList
theorem cBy_neg : ∀ a b : List UInt8, Lib.compareBytes b a = - Lib.compareBytes a b
  | [], [] => rfl
  | [], _ :: _ => rfl
  | _ :: _, [] => rfl
  | a :: u, b :: v => by
    have := cBy_neg u v
    simp only [Lib.compareBytes, UInt8.lt_iff_toNat_lt]
    by_cases h1 : a.toNat < b.toNat
    · rw [if_pos h1, if_neg (by omega), if_pos h1]; rfl
    · by_cases h2 : b.toNat < a.toNat
      · simp [h1, h2]
      · simp [h1, h2, this]
theorem cBy_eq : ∀ {a b : List UInt8}, Lib.compareBytes a b = 0 → a = b
  | [], [], _ => rfl
  | [], _ :: _, h => by simp [Lib.compareBytes] at h
  | _ :: _, [], h => by simp [Lib.compareBytes] at h
  | a :: u, b :: v, h => by
    simp only [Lib.compareBytes, UInt8.lt_iff_toNat_lt] at h
    by_cases h1 : a.toNat < b.toNat
    · rw [if_pos h1] at h; cases h
    · by_cases h2 : b.toNat < a.toNat
      · rw [if_neg h1, if_pos h2] at h; cases h
      · rw [if_neg h1, if_neg h2] at h
        rw [cBy_eq h, UInt8.toNat_inj.1 (by omega : a.toNat = b.toNat)]
theorem cBy_self (a : List UInt8) : Lib.compareBytes a a = 0 := by have := cBy_neg a a; omega
theorem cBy_range : ∀ a b : List UInt8, Lib.compareBytes a b = -1 ∨ Lib.compareBytes a b = 0 ∨ Lib.compareBytes a b = 1
  | [], [] => by simp [Lib.compareBytes]
  | [], _ :: _ => by simp [Lib.compareBytes]
  | _ :: _, [] => by simp [Lib.compareBytes]
  | a :: u, b :: v => by
    have := cBy_range u v
    unfold Lib.compareBytes
    split
    · simp
    · split
      · simp
      · exact this
theorem cBy_trans : ∀ a b c : List UInt8, Lib.compareBytes a b < 0 → Lib.compareBytes b c < 0 → Lib.compareBytes a c < 0
  | [], [], _, h, _ => by simp [Lib.compareBytes] at h
  | [], _ :: _, [], _, h => by simp [Lib.compareBytes] at h
  | [], _ :: _, _ :: _, _, _ => by simp [Lib.compareBytes]
  | _ :: _, [], _, h, _ => by simp [Lib.compareBytes] at h
  | _ :: _, _ :: _, [], _, h => by simp [Lib.compareBytes] at h
  | a :: u, b :: v, c :: x, h1, h2 => by
    simp only [Lib.compareBytes, UInt8.lt_iff_toNat_lt] at h1 h2 ⊢
    by_cases a1 : a.toNat < b.toNat
    · by_cases a2 : b.toNat < c.toNat
      · rw [if_pos (by omega)]; omega
      · rw [if_neg a2] at h2
        by_cases a3 : c.toNat < b.toNat
        · rw [if_pos a3] at h2; omega
        · rw [if_pos (by omega)]; omega
    · rw [if_neg a1] at h1
      by_cases a3 : b.toNat < a.toNat
      · rw [if_pos a3] at h1; omega
      · rw [if_neg a3] at h1
        by_cases a2 : b.toNat < c.toNat
        · rw [if_pos (by omega)]; omega
        · rw [if_neg a2] at h2
          by_cases a4 : c.toNat < b.toNat
          · rw [if_pos a4] at h2; omega
          · rw [if_neg a4] at h2
            rw [if_neg (by omega), if_neg (by omega)]
            exact cBy_trans u v x h1 h2
theorem bLess_cmp : ∀ a b : List UInt8, Op.bytesLess a b = decide (Lib.compareBytes a b < 0)
  | [], [] => rfl
  | [], _ :: _ => rfl
  | _ :: _, [] => rfl
  | a :: u, b :: v => by
    have := bLess_cmp u v
    simp only [Op.bytesLess, Lib.compareBytes, UInt8.lt_iff_toNat_lt, this]
    by_cases h1 : a.toNat < b.toNat
    · simp [h1]
    · by_cases h2 : b.toNat < a.toNat
      · have h3 : ¬ a = b := by rintro rfl; omega
        simp [h1, h2, h3]
      · have h3 : a = b := UInt8.toNat_inj.1 (by omega)
        subst h3
        simp
theorem cS_neg (a b : ByteArray) : cS b a = - cS a b := cBy_neg _ _
theorem cS_eq {a b : ByteArray} (h : cS a b = 0) : a = b := by
  have := cBy_eq h
  cases a with | mk a => cases b with | mk b =>
  simp only at this
  rw [Array.toList_inj.1 this]
theorem cS_self (a : ByteArray) : cS a a = 0 := cBy_self _
theorem cS_trans {a b c : ByteArray} (h1 : cS a b < 0) (h2 : cS b c < 0) : cS a c < 0 := cBy_trans _ _ _ h1 h2
theorem cS_range (a b : ByteArray) : cS a b = -1 ∨ cS a b = 0 ∨ cS a b = 1 := cBy_range _ _
/-! ### the order of lists of strings -/
def cL : List ByteArray → List ByteArray → Int
  | [], [] => 0
  | [], _ :: _ => -1
  | _ :: _, [] => 1
  | a :: u, b :: v => if cS a b ≠ 0 then cS a b else cL u v
theorem cL_neg : ∀ a b, cL b a = - cL a b
  | [], [] => rfl
  | [], _ :: _ => rfl
  | _ :: _, [] => rfl
  | a :: u, b :: v => by
    have h1 := cL_neg u v
    have h2 := cS_neg a b
    unfold cL
    by_cases h : cS a b = 0
    · rw [if_neg (by omega), if_neg (by omega), h1]
    · rw [if_pos (by omega), if_pos h, h2]
theorem cL_eq : ∀ {a b}, cL a b = 0 → a = b
  | [], [], _ => rfl
  | [], _ :: _, h => by simp [cL] at h
  | _ :: _, [], h => by simp [cL] at h
  | a :: u, b :: v, h => by
    unfold cL at h
    by_cases h0 : cS a b = 0
    · rw [if_neg (by omega)] at h
      rw [cS_eq h0, cL_eq h]
    · rw [if_pos h0] at h; exact absurd h h0
theorem cL_self (a : List ByteArray) : cL a a = 0 := by have := cL_neg a a; omega
theorem cL_iff (a b : List ByteArray) : cL a b = 0 ↔ a = b := ⟨cL_eq, fun h => by rw [h, cL_self]⟩
theorem cL_trans : ∀ {a b c}, cL a b < 0 → cL b c < 0 → cL a c < 0
  | [], [], _, h, _ => by simp [cL] at h
  | [], _ :: _, [], _, h => by simp [cL] at h
  | [], _ :: _, _ :: _, _, _ => by simp [cL]
  | _ :: _, [], _, h, _ => by simp [cL] at h
  | _ :: _, _ :: _, [], _, h => by simp [cL] at h
  | a :: u, b :: v, c :: x, h1, h2 => by
    unfold cL at h1 h2 ⊢
    by_cases a1 : cS a b = 0
    · rw [if_neg (by omega)] at h1
      rw [cS_eq a1]
      by_cases a2 : cS b c = 0
      · rw [if_neg (by omega)] at h2 ⊢
        exact cL_trans h1 h2
      · rw [if_pos a2] at h2 ⊢
        exact h2
    · rw [if_pos a1] at h1
      by_cases a2 : cS b c = 0
      · rw [← cS_eq a2, if_pos a1]; exact h1
      · rw [if_pos a2] at h2
        have := cS_trans h1 h2
        rw [if_pos (by omega)]; exact this
/-! ### rows -/
/-- a row: its keys, its count -/
abbrev RK := List ByteArray × Int
def cR (a b : RK) : Int := if b.2 < a.2 then -1 else if a.2 < b.2 then 1 else cL a.1 b.1
theorem cR_neg (a b : RK) : cR b a = - cR a b := by
  have := cL_neg a.1 b.1
  unfold cR
  by_cases h1 : a.2 < b.2
  · rw [if_pos h1, if_neg (by omega), if_pos h1]
  · by_cases h2 : b.2 < a.2
    · rw [if_neg h1, if_pos h2, if_pos h2]; rfl
    · rw [if_neg h1, if_neg h2, if_neg h2, if_neg h1, this]
theorem cR_eq {a b : RK} (h : cR a b = 0) : a = b := by
  unfold cR at h
  by_cases h1 : b.2 < a.2
  · rw [if_pos h1] at h; cases h
  · by_cases h2 : a.2 < b.2
    · rw [if_neg h1, if_pos h2] at h; cases h
    · rw [if_neg h1, if_neg h2] at h
      exact Prod.ext (cL_eq h) (by omega)
theorem cR_trans {a b c : RK} (h1 : cR a b < 0) (h2 : cR b c < 0) : cR a c < 0 := by
  unfold cR at *
  by_cases a1 : b.2 < a.2
  · by_cases a2 : c.2 < b.2
    · rw [if_pos (by omega)]; omega
    · by_cases a3 : b.2 < c.2
      · rw [if_neg a2, if_pos a3] at h2; omega
      · rw [if_pos (by omega)]; omega
  · rw [if_neg a1] at h1
    by_cases a4 : a.2 < b.2
    · rw [if_pos a4] at h1; omega
    · rw [if_neg a4] at h1
      by_cases a2 : c.2 < b.2
      · rw [if_pos (by omega)]; omega
      · rw [if_neg a2] at h2
        by_cases a3 : b.2 < c.2
        · rw [if_pos a3] at h2; omega
        · rw [if_neg a3] at h2
          rw [if_neg (by omega), if_neg (by omega)]
          exact cL_trans h1 h2
def ltR (a b : RK) : Bool := decide (cR a b < 0)
theorem ltR_ord : Ord ltR where
  asym x y h := by
    have e := cR_neg x y
    simp only [ltR, decide_eq_true_eq, decide_eq_false_iff_not] at h ⊢
    omega
  trans x y z h1 h2 := by
    simp only [ltR, decide_eq_false_iff_not] at h1 h2 ⊢
    intro h
    have e1 := cR_neg y z
    by_cases h0 : cR z y = 0
    · rw [cR_eq h0] at h; exact h1 h
    · exact h1 (cR_trans (b := z) (by omega) h)
/-- what is sorted is settled by what it holds -/
theorem sortR_uniq {l m : List RK} (h : l.Perm m) (hl : l.Pairwise fun a b => cR b a ≥ 0) (hm : m.Pairwise fun a b => cR b a ≥ 0) : l = m := by
  refine List.Perm.eq_of_pairwise (le := fun a b => cR b a ≥ 0) (fun a b _ _ h1 h2 => ?_) hl hm h
  have e := cR_neg a b
  exact cR_eq (by omega)
theorem sortK_pw (l : List RK) : (sortK ltR l).Pairwise fun a b => cR b a ≥ 0 := (sortK_sorted ltR_ord l).imp fun {a b} h => by
  simp only [ltR, decide_eq_false_iff_not] at h; omega
/-! ### sums -/
/-- the sum of the counts of the rows with a key -/
def tot (l : List RK) (k : List ByteArray) : Int := (l.map fun r => if r.1 = k then r.2 else 0).sum
theorem tot_nil (k : List ByteArray) : tot [] k = 0 := rfl
theorem tot_cons (r : RK) (l : List RK) (k : List ByteArray) : tot (r :: l) k = (if r.1 = k then r.2 else 0) + tot l k := by unfold tot; rw [List.map_cons, List.sum_cons]
theorem tot_append (l m : List RK) (k : List ByteArray) : tot (l ++ m) k = tot l k + tot m k := by unfold tot; rw [List.map_append, List.sum_append]
instance decMem (k : List ByteArray) (ks : List (List ByteArray)) : Decidable (k ∈ ks) :=
  decidable_of_iff (ks.any (fun x => decide (x = k)) = true) (by rw [List.any_eq_true]; constructor <;> simp)
/-- the keys in the order of their first rows -/
def dk (l : List RK) : List (List ByteArray) := l.foldl (fun ks r => if r.1 ∈ ks then ks else ks ++ [r.1]) []
theorem dk_snoc (l : List RK) (r : RK) : dk (l ++ [r]) = if r.1 ∈ dk l then dk l else dk l ++ [r.1] := by unfold dk; rw [List.foldl_append]; rfl
theorem snocInd {α : Type} {C : List α → Prop} (h0 : C []) (h1 : ∀ l x, C l → C (l ++ [x])) : ∀ l, C l := by
  intro l
  have : ∀ n, ∀ l : List α, l.length = n → C l := by
    intro n
    induction n with
    | zero => intro l h; rw [List.eq_nil_of_length_eq_zero h]; exact h0
    | succ n ih =>
      intro l h
      have hne : l ≠ [] := by intro e; rw [e] at h; cases h
      rw [← List.dropLast_concat_getLast hne]
      exact h1 _ _ (ih _ (by rw [List.length_dropLast, h]; rfl))
  exact this _ l rfl
theorem dk_mem (l : List RK) (k : List ByteArray) : k ∈ dk l ↔ ∃ r ∈ l, r.1 = k := by
  refine snocInd (C := fun l => k ∈ dk l ↔ ∃ r ∈ l, r.1 = k) (by simp [dk]) (fun l x ih => ?_) l
  rw [dk_snoc]
  simp only [List.mem_append, List.mem_singleton]
  by_cases h : x.1 ∈ dk l
  · rw [if_pos h, ih]
    constructor
    · rintro ⟨r, hr, he⟩; exact ⟨r, .inl hr, he⟩
    · rintro ⟨r, hr | rfl, he⟩
      · exact ⟨r, hr, he⟩
      · rw [← ih, ← he]; exact h
  · rw [if_neg h, List.mem_append, ih, List.mem_singleton]
    constructor
    · rintro (⟨r, hr, he⟩ | he)
      · exact ⟨r, .inl hr, he⟩
      · exact ⟨x, .inr rfl, he.symm⟩
    · rintro ⟨r, hr | rfl, he⟩
      · exact .inl ⟨r, hr, he⟩
      · exact .inr he.symm
theorem dk_nodup (l : List RK) : (dk l).Nodup := by
  refine snocInd (C := fun l => (dk l).Nodup) (by simp [dk]) (fun l x ih => ?_) l
  rw [dk_snoc]
  by_cases h : x.1 ∈ dk l
  · rw [if_pos h]; exact ih
  · rw [if_neg h, List.nodup_append]
    refine ⟨ih, by simp, ?_⟩
    intro a ha b hb
    rw [List.mem_singleton] at hb
    subst hb
    rintro rfl
    exact h ha
/-- a row of each key with the sum of its counts -/
def grpR (l : List RK) : List RK := (dk l).map fun k => (k, tot l k)
def sumR (l : List RK) : List RK := sortK ltR (grpR l)
theorem grpR_len (l : List RK) : (grpR l).length ≤ l.length := by
  unfold grpR
  rw [List.length_map]
  refine snocInd (C := fun l => (dk l).length ≤ l.length) (by simp [dk]) (fun l x ih => ?_) l
  rw [dk_snoc, List.length_append, List.length_singleton]
  split
  · omega
  · rw [List.length_append, List.length_singleton]; omega
theorem grpR_keys (l : List RK) : (grpR l).map (·.1) = dk l := by unfold grpR; rw [List.map_map]; exact List.map_id' _
theorem sumR_grp (l : List RK) : (sumR l).Perm (grpR l) := sortK_perm _ _
theorem tot_miss {l : List RK} {k : List ByteArray} (h : ¬ ∃ r ∈ l, r.1 = k) : tot l k = 0 := by
  induction l with
  | nil => rfl
  | cons a l ih =>
    rw [tot_cons, if_neg (fun e => h ⟨a, List.mem_cons_self .., e⟩), ih (fun ⟨r, hr, he⟩ => h ⟨r, List.mem_cons_of_mem _ hr, he⟩)]; rfl
/-- the counts of a table -/
def cntR (l : List RK) : Int := (l.map (·.2)).sum
/-! ### join -/
def joinL : List ByteArray → List UInt8
  | [] => []
  | k :: ks => Lib.decDigits k.size ++ 32 :: (k.data.toList ++ joinL ks)
theorem joinL_append : ∀ a b, joinL (a ++ b) = joinL a ++ joinL b
  | [], _ => rfl
  | k :: ks, b => by
    rw [List.cons_append, joinL, joinL, joinL_append ks b]; simp
theorem dec_step {u : Nat} (h : 10 ≤ u) : Lib.decDigits u = Lib.decDigits (u / 10) ++ [UInt8.ofNat (48 + u % 10)] := by
  rw [Lib.decDigits, dif_neg (by omega)]
theorem dec_space : ∀ (n u : Nat), u < n → ∀ x ∈ Lib.decDigits u, x ≠ 32
  | 0, _, h => by omega
  | n + 1, u, h => by
    have hone : ∀ d < 10, (UInt8.ofNat (48 + d)) ≠ 32 := by decide
    intro x hx
    by_cases h1 : u < 10
    · rw [Lib.decDigits_one h1, List.mem_singleton] at hx
      subst hx; exact hone u h1
    · rw [dec_step (by omega)] at hx
      rcases List.mem_append.1 hx with hx | hx
      · exact dec_space n (u / 10) (by omega) x hx
      · rw [List.mem_singleton] at hx; subst hx; exact hone _ (Nat.mod_lt _ (by omega))
def decV (l : List UInt8) : Nat := l.foldl (fun a d => a * 10 + (d.toNat - 48)) 0
theorem dec_val : ∀ (n u : Nat), u < n → decV (Lib.decDigits u) = u
  | 0, _, h => by omega
  | n + 1, u, h => by
    have hone : ∀ d < 10, (UInt8.ofNat (48 + d)).toNat - 48 = d := by decide
    by_cases h1 : u < 10
    · rw [Lib.decDigits_one h1]
      show 0 * 10 + _ = _
      rw [hone u h1]; omega
    · rw [dec_step (by omega)]
      unfold decV
      rw [List.foldl_append]
      have := dec_val n (u / 10) (by omega)
      unfold decV at this
      rw [this]
      show u / 10 * 10 + _ = _
      rw [hone _ (Nat.mod_lt _ (by omega))]; omega
theorem splitAt32 : ∀ {p q X Y : List UInt8}, (∀ x ∈ p, x ≠ 32) → (∀ x ∈ q, x ≠ 32) → p ++ 32 :: X = q ++ 32 :: Y → p = q ∧ X = Y
  | [], [], _, _, _, _, h => by simpa using h
  | [], b :: q, _, _, _, hq, h => by
    simp only [List.nil_append, List.cons_append, List.cons.injEq] at h
    exact absurd h.1.symm (hq b (List.mem_cons_self ..))
  | a :: p, [], _, _, hp, _, h => by
    simp only [List.nil_append, List.cons_append, List.cons.injEq] at h
    exact absurd h.1 (hp a (List.mem_cons_self ..))
  | a :: p, b :: q, _, _, hp, hq, h => by
    simp only [List.cons_append, List.cons.injEq] at h
    obtain ⟨h1, h2⟩ := splitAt32 (fun x hx => hp x (List.mem_cons_of_mem _ hx)) (fun x hx => hq x (List.mem_cons_of_mem _ hx)) h.2
    exact ⟨by rw [h.1, h1], h2⟩
theorem joinL_inj : ∀ {a b : List ByteArray}, joinL a = joinL b → a = b
  | [], [], _ => rfl
  | [], k :: ks, h => by
    rw [joinL, joinL] at h
    have := congrArg List.length h
    simp at this
  | k :: ks, [], h => by
    rw [joinL, joinL] at h
    have := congrArg List.length h
    simp at this
  | k :: ks, j :: js, h => by
    rw [joinL, joinL] at h
    obtain ⟨h1, h2⟩ := splitAt32 (dec_space _ _ (Nat.lt_succ_self _)) (dec_space _ _ (Nat.lt_succ_self _)) h
    have hs : k.size = j.size := by
      have := congrArg decV h1
      rwa [dec_val _ _ (Nat.lt_succ_self _), dec_val _ _ (Nat.lt_succ_self _)] at this
    have hl : k.data.toList.length = j.data.toList.length := by rw [Array.length_toList, Array.length_toList]; exact hs
    obtain ⟨h3, h4⟩ := List.append_inj h2 hl
    rw [joinL_inj h4]
    congr 1
    cases k with | mk k => cases j with | mk j =>
    simp only at h3
    rw [Array.toList_inj.1 h3]
def joinB (ks : List ByteArray) : ByteArray := ⟨(joinL ks).toArray⟩
theorem joinB_inj {a b : List ByteArray} (h : joinB a = joinB b) : a = b := by
  have : (joinL a).toArray = (joinL b).toArray := congrArg ByteArray.data h
  exact joinL_inj (by simpa using this)
end Go.Proofs.YthacphfjchpoaaaDoor
namespace Go.Proofs.YthacphfjchpoaaaDoor

/-- whether a row may stand behind others -/
def okR (n : Nat) (pre : List RK) (r : RK) : Bool :=
  decide (1 ≤ r.1.length) && (decide (r.1.length ≤ 4) && (decide (r.1.length = n) && (decide (1 ≤ r.2) && (decide (∀ x ∈ pre, x.1 ≠ r.1) && (match pre.getLast? with
    | none => true
    | some p => decide (cR p r < 0))))))
def validG (n : Nat) : List RK → List RK → Bool
  | _, [] => true
  | pre, r :: l => okR n pre r && validG n (pre ++ [r]) l
/-- the number of keys of the first row -/
def keysN (l : List RK) : Nat := match l with
  | [] => 0
  | r :: _ => r.1.length
def validR (l : List RK) : Bool := validG (keysN l) [] l
theorem validG_spec (n : Nat) : ∀ (l pre : List RK), validG n pre l = true ↔ ∀ i r, l[i]? = some r → okR n (pre ++ l.take i) r = true
  | [], pre => by simp [validG]
  | a :: l, pre => by
    rw [validG, Bool.and_eq_true, validG_spec n l (pre ++ [a])]
    constructor
    · rintro ⟨h1, h2⟩ i r hi
      cases i with
      | zero =>
        simp only [List.getElem?_cons_zero, Option.some.injEq] at hi
        subst hi
        simpa using h1
      | succ i =>
        have := h2 i r (by simpa using hi)
        simpa using this
    · intro h
      refine ⟨by simpa using h 0 a rfl, fun i r hi => ?_⟩
      have := h (i + 1) r (by simpa using hi)
      simpa using this
theorem validR_at {l : List RK} (h : validR l = true) {i : Nat} {r : RK} (hi : l[i]? = some r) : okR (keysN l) (l.take i) r = true := by
  have := (validG_spec (keysN l) l []).1 h i r hi
  simpa using this
theorem validR_not {l : List RK} {i : Nat} {r : RK} (hi : l[i]? = some r) (h : okR (keysN l) (l.take i) r = false) : validR l = false := by
  cases hv : validR l with
  | false => rfl
  | true => rw [validR_at hv hi] at h; cases h
theorem okR_parts {n : Nat} {pre : List RK} {r : RK} (h : okR n pre r = true) : 1 ≤ r.1.length ∧ r.1.length ≤ 4 ∧ r.1.length = n ∧ 1 ≤ r.2 ∧ (∀ x ∈ pre, x.1 ≠ r.1) ∧ ∀ p, pre.getLast? = some p → cR p r < 0 := by
  unfold okR at h
  simp only [Bool.and_eq_true, decide_eq_true_eq] at h
  obtain ⟨h1, h2, h3, h4, h5, h6⟩ := h
  refine ⟨h1, h2, h3, h4, h5, fun p hp => ?_⟩
  rw [hp] at h6
  simpa using h6
theorem validR_mem {l : List RK} (h : validR l = true) {r : RK} (hr : r ∈ l) : 1 ≤ r.1.length ∧ r.1.length ≤ 4 ∧ r.1.length = keysN l ∧ 1 ≤ r.2 := by
  obtain ⟨i, hi⟩ := List.getElem?_of_mem hr
  obtain ⟨h1, h2, h3, h4, _⟩ := okR_parts (validR_at h hi)
  exact ⟨h1, h2, h3, h4⟩
/-- the sum of all counts, of a valid table -/
def totalR (l : List RK) : Int := if validR l = true then cntR l else 0
theorem cntR_snoc (l : List RK) (r : RK) : cntR (l ++ [r]) = cntR l + r.2 := by unfold cntR; rw [List.map_append, List.sum_append]; simp
theorem cntR_bound : ∀ {l : List RK} {m : Int}, 0 ≤ m → (∀ r ∈ l, 0 ≤ r.2 ∧ r.2 ≤ m) → 0 ≤ cntR l ∧ cntR l ≤ l.length * m
  | [], m, _, _ => by simp [cntR]
  | a :: l, m, hm, h => by
    have h1 := cntR_bound hm fun r hr => h r (List.mem_cons_of_mem _ hr)
    have h2 := h a (List.mem_cons_self ..)
    unfold cntR at *
    rw [List.map_cons, List.sum_cons, List.length_cons]
    have e : ((l.length + 1 : Nat) : Int) * m = l.length * m + m := by rw [Int.natCast_add, Int.add_mul]; simp
    rw [e]; omega
def marE (l : List RK) (k : Int) : Int := if validR l = false ∨ k < 0 ∨ (l ≠ [] ∧ (keysN l : Int) ≤ k) then 1 else 0
def marR (l : List RK) (k : Nat) : List RK := sumR (l.map fun r => ([r.1.getD k ⟨#[]⟩], r.2))
def mergeE (l m : List RK) : Int := if validR l = false ∨ validR m = false then 1 else if l ≠ [] ∧ m ≠ [] ∧ keysN l ≠ keysN m then 15 else 0
end Go.Proofs.YthacphfjchpoaaaDoor
namespace Go.Proofs.YthacphfjchpoaaaDoor
open Go.RowKit

/-- the entries of a map, in the order in which they came -/
def MapS (es : List MapEntry) (ks : List (ByteArray × Value)) : Prop := es.map (fun e => (e.key, e.val)) = ks.map fun p => (Value.string p.1, p.2)
def lookS (ks : List (ByteArray × Value)) (s : ByteArray) : Option Value := (ks.find? fun p => decide (p.1 = s)).map (·.2)
theorem MapS.nil : MapS [] [] := rfl
theorem lookS_snoc (ks : List (ByteArray × Value)) (s t : ByteArray) (v : Value) : lookS (ks ++ [(s, v)]) t = match lookS ks t with
  | some u => some u
  | none => if s = t then some v else none := by
  unfold lookS
  rw [List.find?_append]
  cases h : ks.find? fun p => decide (p.1 = t) with
  | some p => rfl
  | none =>
    by_cases e : s = t
    · simp [e]
    · simp [e]
theorem findNow_S (s : ByteArray) : ∀ (es : List MapEntry) (ks : List (ByteArray × Value)) (i : Nat), MapS es ks →
    (lookS ks s = none ∧ Instr.findNow .string (.string s) es i = some none) ∨ ∃ j v, lookS ks s = some v ∧ Instr.findNow .string (.string s) es i = some (some (j, v))
  | [], ks, i, h => by
    have : ks = [] := by cases ks with
      | nil => rfl
      | cons a l => simp [MapS] at h
    subst this
    exact .inl ⟨rfl, rfl⟩
  | e :: es, [], i, h => by simp [MapS] at h
  | e :: es, k :: ks, i, h => by
    simp only [MapS, List.map_cons, List.cons.injEq, Prod.mk.injEq] at h
    obtain ⟨⟨h1, h2⟩, h3⟩ := h
    have hq : Instr.sameNow .string (.string s) e.key = some (s == k.1) := by rw [h1]; rfl
    by_cases he : k.1 = s
    · have hb : (s == k.1) = true := (MapKept.bytes_beq s k.1).2 he.symm
      refine .inr ⟨i, k.2, ?_, ?_⟩
      · unfold lookS; rw [List.find?_cons_of_pos (by simpa using he)]; rfl
      · unfold Instr.findNow; rw [hq, hb, h2]
    · have hb : (s == k.1) = false := by
        rw [Bool.eq_false_iff]; intro h; exact he ((MapKept.bytes_beq s k.1).1 h).symm
      have hl : lookS (k :: ks) s = lookS ks s := by unfold lookS; rw [List.find?_cons_of_neg (by simpa using he)]
      rw [hl]
      have hf : Instr.findNow .string (.string s) (e :: es) i = Instr.findNow .string (.string s) es (i + 1) := by
        conv => lhs; unfold Instr.findNow
        rw [hq, hb]
      rw [hf]
      exact findNow_S s es ks (i + 1) h3
section
variable {P : Program} {X : Cx} {e : Env} {l : List (Nat × Obj)} {H : Hp} {D : List Deferred} {k : List It} {all : Array Oper} {rest : List Oper} {dst : Option Tmp} {ty : TypeId} {pos : String} {after : Array Edge} {gd : Option (Nat × Bool)}
theorem T.newMap {t : TypeId} {d : Nat} (hw : Wanted e all ⟨some d, .makeMap t none, ty, pos, after, gd⟩) (hN : Nat.blt d X.N = true)
    (h : ∀ b, T P X ((d, .map (some b)) :: e) ((b, .map #[] 0) :: l) H D (.ops all rest :: k)) :
    T P X e l H D (.ops all (⟨some d, .makeMap t none, ty, pos, after, gd⟩ :: rest) :: k) :=
  T.step hw rfl hN fun a w ha hw' => by
    refine ⟨_, _, _, w.alloc (.map #[] 0), ?_, hw'.alloc _, h w.heap.size⟩
    simp [execOp, Instr.makeMap]
/-- a key that is new -/
theorem T.mapPush {t kt vt : TypeId} (hm : P.underlying t = some (.map kt vt)) (hk : P.underlying kt = some .string) {x y z : Operand} {b : Nat} {es : Array MapEntry} {clock : Nat} {ks : List (ByteArray × Value)} {s : ByteArray} {v : Value}
    (hw : Wanted e all ⟨none, .mapUpdate t x y z, ty, pos, after, gd⟩) (hx : evE e x = some (.map (some b))) (hy : evE e y = some (.string s)) (hz : evE e z = some v) (hs : MapS es.toList ks) (hn : lookS ks s = none) (al : List (Nat × Obj)) {bl : List (Nat × Obj)}
    (hl : l = al ++ (b, .map es clock) :: bl)
    (h : ∀ es' clock', MapS es'.toList (ks ++ [(s, v)]) → T P X e (al ++ (b, .map es' clock') :: bl) H D (.ops all rest :: k)) :
    T P X e l H D (.ops all (⟨none, .mapUpdate t x y z, ty, pos, after, gd⟩ :: rest) :: k) :=
  T.step0 hw rfl fun a w ha hw' => by
    subst hl
    have hb : w.heap[b]? = some (.map es clock) := (hw'.own (b, .map es clock) (by simp)).1
    have hup : ∀ (al : List (Nat × Obj)) o', Upd (al ++ (b, .map es clock) :: bl) b (.map es clock) o' (al ++ (b, o') :: bl) := by
      intro al o'
      induction al with
      | nil => exact .head
      | cons p al ih => exact .tail ih
    have hc : (Instr.checkKey false 10000 kt (.string s)).run P w = .ok () w := MapKept.run_checkKey hk (show MapKept.IsKey .string (.string s) from trivial) false 9999
    rcases findNow_S s es.toList ks 0 hs with ⟨_, g2⟩ | ⟨j, v', g1, _⟩
    · have hf := MapKept.run_findKey (w := w) hk g2
      refine ⟨_, H, _, ?_, hw'.upd (hup al (.map (es.push { key := .string s, val := v, born := clock }) (clock + 1))), h _ _ ?_⟩
      · simp [execOp, ha.eval hx, ha.eval hy, ha.eval hz, Instr.mapUpdate, run_underlying hm, MapKept.run_getObj_map hb, hc, hf, MapKept.run_setObj_map _ hb, Result.andThen, World.putObj]
      · unfold MapS at *
        rw [Array.toList_push, List.map_append, hs, List.map_append]; rfl
    · rw [hn] at g1; cases g1
theorem PV.mapGet {t kt vt : TypeId} {z : Value} (hm : P.underlying t = some (.map kt vt)) (hk : P.underlying kt = some .string) (hz : ∀ w, (zeroValue vt).run P w = .ok z w) {x y : Operand} {b : Nat} {es : Array MapEntry} {clock : Nat} {ks : List (ByteArray × Value)} {s : ByteArray}
    (hx : evE e x = some (.map (some b))) (hy : evE e y = some (.string s)) (hs : MapS es.toList ks) (hl : (b, Obj.map es clock) ∈ l) :
    PV P e l H ⟨dst, .lookup t x y false, ty, pos, after, gd⟩ ((lookS ks s).getD z) := PV.mk fun X D a w ha hw' => by
  have hb : w.heap[b]? = some (.map es clock) := (hw'.own (b, .map es clock) hl).1
  have hc : ∀ em, (Instr.checkKey em 10000 kt (.string s)).run P w = .ok () w := fun em => MapKept.run_checkKey hk (show MapKept.IsKey .string (.string s) from trivial) em 9999
  rcases findNow_S s es.toList ks 0 hs with ⟨g1, g2⟩ | ⟨j, v', g1, g2⟩
  · have hf := MapKept.run_findKey (w := w) hk g2
    rw [g1]
    simp [execOp, ha.eval hx, ha.eval hy, Instr.lookup, run_underlying hm, MapKept.run_getObj_map hb, hc, hf, hz, Result.andThen]
  · have hf := MapKept.run_findKey (w := w) hk g2
    rw [g1]
    simp [execOp, ha.eval hx, ha.eval hy, Instr.lookup, run_underlying hm, MapKept.run_getObj_map hb, hc, hf, Result.andThen]
theorem PV.mapGet2 {t kt vt : TypeId} {z : Value} (hm : P.underlying t = some (.map kt vt)) (hk : P.underlying kt = some .string) (hz : ∀ w, (zeroValue vt).run P w = .ok z w) {x y : Operand} {b : Nat} {es : Array MapEntry} {clock : Nat} {ks : List (ByteArray × Value)} {s : ByteArray}
    (hx : evE e x = some (.map (some b))) (hy : evE e y = some (.string s)) (hs : MapS es.toList ks) (hl : (b, Obj.map es clock) ∈ l) :
    PV P e l H ⟨dst, .lookup t x y true, ty, pos, after, gd⟩ (.tuple #[(lookS ks s).getD z, .bool (lookS ks s).isSome]) := PV.mk fun X D a w ha hw' => by
  have hb : w.heap[b]? = some (.map es clock) := (hw'.own (b, .map es clock) hl).1
  have hc : ∀ em, (Instr.checkKey em 10000 kt (.string s)).run P w = .ok () w := fun em => MapKept.run_checkKey hk (show MapKept.IsKey .string (.string s) from trivial) em 9999
  rcases findNow_S s es.toList ks 0 hs with ⟨g1, g2⟩ | ⟨j, v', g1, g2⟩
  · have hf := MapKept.run_findKey (w := w) hk g2
    rw [g1]
    simp [execOp, ha.eval hx, ha.eval hy, Instr.lookup, run_underlying hm, MapKept.run_getObj_map hb, hc, hf, hz, Result.andThen]
  · have hf := MapKept.run_findKey (w := w) hk g2
    rw [g1]
    simp [execOp, ha.eval hx, ha.eval hy, Instr.lookup, run_underlying hm, MapKept.run_getObj_map hb, hc, hf, Result.andThen]
end
end Go.Proofs.YthacphfjchpoaaaDoor
namespace Go.Proofs.YthacphfjchpoaaaDoor
open Go.RowKit


theorem itoaB_size (n : Int) (hn : -9223372036854775808 ≤ n ∧ n ≤ 9223372036854775807) : (itoaB n).size ≤ 21 := by
  have h := Lib.itoa_length_le n hn.1 hn.2
  have h2 : (itoaB n).size = (Lib.itoa n).length := by unfold itoaB; show (Lib.itoa n).toArray.size = _; simp
  omega
end Go.Proofs.YthacphfjchpoaaaDoor
namespace Go.Proofs.YthacphfjchpoaaaDoor
open Go.RowKit


end Go.Proofs.YthacphfjchpoaaaDoor
