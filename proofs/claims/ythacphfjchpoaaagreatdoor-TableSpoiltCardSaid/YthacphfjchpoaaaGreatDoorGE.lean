/- The shelf's contracts, laid at this program (written by the kit's command).
   numbers as texts: strconv.Itoa by the shelf's contract.
   lines: Hash.
   lines: the reference's Decimal.
   lines: sorting by insertion from behind: what it keeps.
   table: keys, rows, their order and their sums: plain law.
   table: valid tables: plain law.
   Own layer: maps with strings for keys. -/
import Derived.Shelf.LaysM
import Derived.Test.YthacphfjchpoaaaGreatDoorProg
import Derived.Shelf.Strconv.Itoa3
import Derived.Lib.ItoaLen
import Derived.WalkKit
import Derived.Lib.Bytealg
import Derived.Lib.ItoaNum
import Derived.MapKept
import Derived.Test.YthacphfjchpoaaaGreatDoorGC
namespace Go.Proofs.YthacphfjchpoaaaGreatDoor
open Go.Proofs Go.Shelf

def Tryz.itoaL_ren : Go.Shelf.Ren := ⟨fun | 171 => 74 | 243 => 101 | 246 => 129 | 283 => 147 | 284 => 148 | 285 => 149 | 286 => 150 | 129 => 124 | 317 => 156 | 318 => 157 | 319 => 158 | 320 => 159 | 337 => 161 | 338 => 162 | n => n, fun | 3 => 3 | 9 => 9 | 2 => 2 | 4 => 4 | 171 => 194 | 0 => 0 | 53 => 166 | 37 => 126 | 5 => 5 | 173 => 196 | 212 => 205 | 51 => 164 | 20 => 20 | 213 => 206 | 46 => 140 | 232 => 207 | 233 => 208 | n => n, fun | 17 => 0 | 18 => 1 | 19 => 2 | n => n⟩
theorem Tryz.itoaL : Go.Proofs.LaysM.n171 Tryz.prog Tryz.itoaL_ren := {
  mixed := by kernel_rfl,
  f129 := Tryz.func124.trans (congrArg some (by kernel_rfl)),
  f171 := Tryz.func74.trans (congrArg some (by kernel_rfl)),
  f243 := Tryz.func101.trans (congrArg some (by kernel_rfl)),
  f246 := Tryz.func129.trans (congrArg some (by kernel_rfl)),
  f283 := Tryz.func147.trans (congrArg some (by kernel_rfl)),
  f284 := Tryz.func148.trans (congrArg some (by kernel_rfl)),
  f285 := Tryz.func149.trans (congrArg some (by kernel_rfl)),
  f286 := Tryz.func150.trans (congrArg some (by kernel_rfl)),
  f317 := Tryz.func156.trans (congrArg some (by kernel_rfl)),
  f318 := Tryz.func157.trans (congrArg some (by kernel_rfl)),
  f319 := Tryz.func158.trans (congrArg some (by kernel_rfl)),
  f320 := Tryz.func159.trans (congrArg some (by kernel_rfl)),
  f337 := Tryz.func161.trans (congrArg some (by kernel_rfl)),
  f338 := Tryz.func162.trans (congrArg some (by kernel_rfl)),
  t0 := Tryz.underlying0,
  a0 := Tryz.isAgg0,
  z0 := Tryz.sizeOf0,
  v0 := Tryz.zeroValue0,
  t2 := Tryz.underlying2,
  a2 := Tryz.isAgg2,
  z2 := Tryz.sizeOf2,
  v2 := Tryz.zeroValue2,
  t3 := Tryz.underlying3,
  a3 := Tryz.isAgg3,
  z3 := Tryz.sizeOf3,
  v3 := Tryz.zeroValue3,
  t4 := Tryz.underlying4,
  a4 := Tryz.isAgg4,
  z4 := Tryz.sizeOf4,
  v4 := Tryz.zeroValue4,
  t5 := Tryz.underlying5,
  a5 := Tryz.isAgg5,
  z5 := Tryz.sizeOf5,
  v5 := Tryz.zeroValue5,
  t9 := Tryz.underlying9,
  a9 := Tryz.isAgg9,
  z9 := Tryz.sizeOf9,
  v9 := Tryz.zeroValue9,
  t20 := Tryz.underlying20,
  a20 := Tryz.isAgg20,
  z20 := Tryz.sizeOf20,
  v20 := Tryz.zeroValue20,
  t37 := Tryz.underlying126,
  a37 := Tryz.isAgg126,
  z37 := Tryz.sizeOf126,
  v37 := Tryz.zeroValue126,
  t46 := Tryz.underlying140,
  a46 := Tryz.isAgg140,
  z46 := Tryz.sizeOf140,
  v46 := Tryz.zeroValue140,
  t51 := Tryz.underlying164,
  a51 := Tryz.isAgg164,
  z51 := Tryz.sizeOf164,
  v51 := Tryz.zeroValue164,
  t53 := Tryz.underlying166,
  a53 := Tryz.isAgg166,
  z53 := Tryz.sizeOf166,
  v53 := Tryz.zeroValue166,
  t171 := Tryz.underlying194,
  a171 := Tryz.isAgg194,
  z171 := Tryz.sizeOf194,
  v171 := Tryz.zeroValue194,
  t173 := Tryz.underlying196,
  a173 := Tryz.isAgg196,
  z173 := Tryz.sizeOf196,
  v173 := Tryz.zeroValue196,
  t212 := Tryz.underlying205,
  a212 := Tryz.isAgg205,
  z212 := Tryz.sizeOf205,
  v212 := Tryz.zeroValue205,
  t213 := Tryz.underlying206,
  a213 := Tryz.isAgg206,
  z213 := Tryz.sizeOf206,
  t232 := Tryz.underlying207,
  a232 := Tryz.isAgg207,
  z232 := Tryz.sizeOf207,
  v232 := Tryz.zeroValue207,
  t233 := Tryz.underlying208,
  a233 := Tryz.isAgg208,
  z233 := Tryz.sizeOf208,
  v233 := Tryz.zeroValue208,
  g17 := by kernel_rfl,
  g18 := by kernel_rfl,
  g19 := by kernel_rfl,
  i0 := by kernel_rfl,
  i2 := by kernel_rfl,
  i3 := by kernel_rfl,
  i4 := by kernel_rfl,
  i5 := by kernel_rfl,
  i9 := by kernel_rfl,
  i20 := by kernel_rfl,
  i37 := by kernel_rfl,
  i46 := by kernel_rfl,
  i51 := by kernel_rfl,
  i53 := by kernel_rfl,
  i171 := by kernel_rfl,
  i173 := by kernel_rfl,
  i212 := by kernel_rfl,
  i232 := by kernel_rfl,
  i233 := by kernel_rfl,
  m17 := by kernel_rfl,
  m18 := by kernel_rfl,
  m19 := by kernel_rfl }
end Go.Proofs.YthacphfjchpoaaaGreatDoor
namespace Go.Proofs.YthacphfjchpoaaaGreatDoor
open Go.RowKit

/-- the library's table of powers lies in the heap -/
def PowT (H : Hp) : Prop := ∃ t fz, H 0 = some (.cells (Lib.pow10Tab.map fun z => Value.int .u64 z).toArray t fz)
theorem PowT.mono {H H' : Hp} (h : PowT H) (hl : H.le H') : PowT H' := by
  obtain ⟨t, fz, h⟩ := h
  exact ⟨t, fz, hl _ _ h⟩
def itoaB (n : Int) : ByteArray := ⟨(Lib.itoa n).toArray⟩
theorem itoa_fn (n : Int) (H : Hp) (hT : PowT H) (hn : -9223372036854775808 ≤ n ∧ n ≤ 9223372036854775807) : Fn Tryz.prog 74 #[.int .i64 n] H (fun u _ => u = .string (itoaB n)) := Fn.mk fun w hw => by
  obtain ⟨t, fz, hg⟩ := hT
  have hb := hw _ _ hg
  refine callsIn_wide.2 ((Go.Proofs.Any.strconv_Itoa (ρ := Tryz.itoaL_ren) Tryz.itoaL n hn.1 hn.2 w ?_).mono ?_)
  · unfold Lib.TabIs World.var?
    rw [Option.bind_eq_some_iff]
    exact ⟨0, by kernel_rfl, by rw [hb]⟩
  · rintro e w' ⟨rfl, k, os, rfl⟩
    have hlt : ∀ b o, w.heap[b]? = some o → b < w.heap.size := fun b o h => (Array.getElem?_eq_some_iff.1 h).1
    have hh : ∀ b, b < w.heap.size → (Go.Sort.grow (w.drewN k) os).heap[b]? = w.heap[b]? := fun b h => by
      show (w.heap ++ os)[b]? = _
      exact Array.getElem?_append_left h
    refine ⟨_, H, rfl, fun _ _ => rfl, fun b o h => (hh b (hlt b o (hw b o h))).trans (hw b o h), ⟨rfl, rfl, rfl, ?_, ?_, fun b hb _ => hh b hb⟩, rfl⟩
    · show w.heap.size ≤ (w.heap ++ os).size
      simp
    · show w.drawn ≤ w.drawn + k
      omega
end Go.Proofs.YthacphfjchpoaaaGreatDoor
namespace Go.Proofs.YthacphfjchpoaaaGreatDoor
open Go.RowKit

theorem itoaB_size (n : Int) (hn : -9223372036854775808 ≤ n ∧ n ≤ 9223372036854775807) : (itoaB n).size ≤ 21 := by
  have h := Lib.itoa_length_le n hn.1 hn.2
  have h2 : (itoaB n).size = (Lib.itoa n).length := by unfold itoaB; show (Lib.itoa n).toArray.size = _; simp
  omega
end Go.Proofs.YthacphfjchpoaaaGreatDoor
namespace Go.Proofs.YthacphfjchpoaaaGreatDoor
open Go.RowKit

theorem decD_step {u : Nat} (h : 10 ≤ u) : Lib.decDigits u = Lib.decDigits (u / 10) ++ Lib.decDigits (u % 10) := by
  rw [Lib.decDigits, dif_neg (by omega), Lib.decDigits_one (i := u % 10) (by omega)]
theorem baApp (a b : List UInt8) : (⟨a.toArray⟩ : ByteArray) ++ ⟨b.toArray⟩ = ⟨(a ++ b).toArray⟩ := by
  apply ByteArray.ext
  simp [ByteArray.data_append]
theorem itoaB_nat (u : Nat) : itoaB (u : Int) = ⟨(Lib.decDigits u).toArray⟩ := by unfold itoaB; rw [Lib.itoa_nonneg]
theorem itoaB_negN (u : Nat) (h : 1 ≤ u) : itoaB (-(u : Int)) = ⟨(45 :: Lib.decDigits u).toArray⟩ := by unfold itoaB; rw [Lib.itoa_neg u h]
theorem itoaB_one {n : Int} (h : 0 ≤ n ∧ n < 10) : itoaB n = ⟨[UInt8.ofNat (48 + n.toNat)].toArray⟩ := by
  obtain ⟨u, rfl⟩ : ∃ u : Nat, n = u := ⟨n.toNat, by omega⟩
  rw [itoaB_nat, Lib.decDigits_one (by omega), Int.toNat_natCast]
theorem tdiv_nat (u : Nat) : ((u : Int)).tdiv 10 = ((u / 10 : Nat) : Int) := rfl
theorem tmod_nat (u : Nat) : ((u : Int)).tmod 10 = ((u % 10 : Nat) : Int) := rfl
theorem tdiv_neg (u : Nat) : (-(u : Int)).tdiv 10 = -((u / 10 : Nat) : Int) := by rw [Int.neg_tdiv, tdiv_nat]
theorem tmod_neg (u : Nat) : (-(u : Int)).tmod 10 = -((u % 10 : Nat) : Int) := by rw [Int.neg_tmod, tmod_nat]
theorem itoaB_step {u : Nat} (h : 10 ≤ u) : itoaB (u : Int) = itoaB ((u / 10 : Nat) : Int) ++ itoaB ((u % 10 : Nat) : Int) := by
  rw [itoaB_nat, itoaB_nat, itoaB_nat, baApp, decD_step h]
theorem itoaB_minus1 {u : Nat} (h : 1 ≤ u) : itoaB (-(u : Int)) = ⟨#[45]⟩ ++ itoaB (u : Int) := by
  rw [itoaB_negN u h, itoaB_nat]
  exact (baApp [45] _).symm
theorem itoaB_minus {u : Nat} (h : 10 ≤ u) : itoaB (-(u : Int)) = itoaB (-((u / 10 : Nat) : Int)) ++ itoaB ((u % 10 : Nat) : Int) := by
  rw [itoaB_negN u (by omega), itoaB_negN _ (by omega), itoaB_nat, baApp, decD_step h]
  rfl
set_option maxHeartbeats 1000000 in
theorem dec_fnK (H : Hp) : ∀ (k : Nat) (n : Int), 2 * n.natAbs + (if n < 0 then 1 else 0) < k → -9223372036854775808 ≤ n ∧ n ≤ 9223372036854775807 → Fn Tryz.prog 76 #[.int .i64 n] H (fun u _ => u = .string (itoaB n)) := by
  intro k
  induction k with
  | zero => intro n h; omega
  | succ k ih =>
    intro n hk hn
    refine Fn.of_T (vs := [.int .i64 n]) Tryz.func76 rfl rfl fun w => ?_
    by_cases h0 : n < 0
    · rw [if_pos h0] at hk
      obtain ⟨u, hu⟩ : ∃ u : Nat, n = -(u : Int) := ⟨n.natAbs, by omega⟩
      have hu1 : 1 ≤ u := by omega
      by_cases h1 : -10 < n
      · have i1 := ih (-n) (by rw [if_neg (by omega)]; omega) (by omega)
        have z1 : (⟨#[45]⟩ : ByteArray).size = 1 := rfl
        have z2 := itoaB_size (-n) (by omega)
        refine yq25 ?_; refine yq14 ?_; refine yq3 ?_; refine sc rfl (by omega) ?_; refine yq158 ?_; refine yq46 ?_; refine yq2 ?_; refine sv (PV.neg rfl (by omega)) ?_; refine T.callV Wanted.none rfl rfl (i1) ?_; refine sv (PV.sadd rfl rfl (by omega)) ?_; refine yq0 ?_
        exact T.retF (Lv.fin (RV.tmp rfl rfl) (by rw [hu, itoaB_minus1 hu1, Int.neg_neg]))
      · have q := tdiv_neg u
        have r := tmod_neg u
        rw [← hu] at q r
        have i1 := ih (n.tdiv 10) (by rw [q, if_pos (by omega)]; omega) (by omega)
        have i2 := ih (-(n.tmod 10)) (by rw [r, if_neg (by omega)]; omega) (by omega)
        have z1 := itoaB_size (n.tdiv 10) (by omega)
        have z2 := itoaB_size (-(n.tmod 10)) (by omega)
        refine yq25 ?_; refine yq14 ?_; refine yq3 ?_; refine sc rfl (by omega) ?_; refine yq158 ?_; refine yq88 ?_; refine yq2 ?_; refine sv (PV.quo rfl rfl (by omega) (by omega)) ?_; refine T.callV Wanted.none rfl rfl (i1) ?_; refine sm ?_; refine sv (PV.rem rfl rfl (by omega)) ?_; refine sv (PV.neg rfl (by omega)) ?_; refine T.callV Wanted.none rfl rfl (i2) ?_; refine sv (PV.sadd rfl rfl (by omega)) ?_; refine yq0 ?_
        exact T.retF (Lv.fin (RV.tmp rfl rfl) (by rw [q, r, Int.neg_neg, hu]; exact congrArg Value.string (itoaB_minus (by omega)).symm))
    · rw [if_neg h0] at hk
      obtain ⟨u, hu⟩ : ∃ u : Nat, n = (u : Int) := ⟨n.toNat, by omega⟩
      by_cases h1 : n < 10
      · have hw : IntKind.wrap .u8 (48 + n) = ((UInt8.ofNat (48 + n.toNat)).toNat : Int) := by
          have e1 : (UInt8.ofNat (48 + n.toNat)).toNat = 48 + n.toNat := by
            rw [UInt8.toNat_ofNat']
            omega
          rw [e1]
          unfold IntKind.wrap
          simp only [IntKind.bits, IntKind.signed]
          simp
          omega
        refine yq25 ?_; refine yq14 ?_; refine yq3 ?_; refine yq22 ?_; refine yq14 ?_; refine yq3 ?_; refine sc rfl (by omega) ?_; refine yq2 ?_; refine sv (PV.add rfl rfl (by omega)) ?_; refine sv (PV.convK rfl) ?_
        rw [hw]
        (refine T.buildSlice Wanted.none rfl rfl zq11 (by exact rfl) (by exact rfl) ?_; intro b24); refine T.pv (PV.bytesStr (bs := [UInt8.ofNat (48 + n.toNat)]) rfl (Src.cells (m := 1) (.own zq2) rfl rfl) ⟨_, _, rfl⟩) Wanted.none rfl rfl ?_; refine yq0 ?_
        exact T.retF (Lv.fin (RV.tmp rfl rfl) (by rw [itoaB_one ⟨by omega, h1⟩]))
      · have q := tdiv_nat u
        have r := tmod_nat u
        rw [← hu] at q r
        have i1 := ih (n.tdiv 10) (by rw [q, if_neg (by omega)]; omega) (by omega)
        have i2 := ih (n.tmod 10) (by rw [r, if_neg (by omega)]; omega) (by omega)
        have z1 := itoaB_size (n.tdiv 10) (by omega)
        have z2 := itoaB_size (n.tmod 10) (by omega)
        refine yq25 ?_; refine yq14 ?_; refine yq3 ?_; refine yq22 ?_; refine yq14 ?_; refine yq3 ?_; refine yq22 ?_; refine yq2 ?_; refine sv (PV.quo rfl rfl (by omega) (by omega)) ?_; refine T.callV Wanted.none rfl rfl (i1) ?_; refine sm ?_; refine sv (PV.rem rfl rfl (by omega)) ?_; refine T.callV Wanted.none rfl rfl (i2) ?_; refine sv (PV.sadd rfl rfl (by omega)) ?_; refine yq0 ?_
        exact T.retF (Lv.fin (RV.tmp rfl rfl) (by rw [q, r, hu]; exact congrArg Value.string (itoaB_step (by omega)).symm))
theorem dec_fn (n : Int) (H : Hp) (hn : -9223372036854775808 ≤ n ∧ n ≤ 9223372036854775807) : Fn Tryz.prog 76 #[.int .i64 n] H (fun u _ => u = .string (itoaB n)) :=
  dec_fnK H _ n (Nat.lt_succ_self _) hn
end Go.Proofs.YthacphfjchpoaaaGreatDoor
namespace Go.Proofs.YthacphfjchpoaaaGreatDoor

section
variable {α : Type}
/-- the place of x in a list, looked for from behind -/
def insK (lt : α → α → Bool) (A : List α) (x : α) : Nat → Nat
  | 0 => 0
  | k + 1 => match A[k]? with
    | some y => if lt x y = true then insK lt A x k else k + 1
    | none => k + 1
def insE (lt : α → α → Bool) (A : List α) (x : α) : List α := A.take (insK lt A x A.length) ++ x :: A.drop (insK lt A x A.length)
def sortK (lt : α → α → Bool) (l : List α) : List α := l.foldl (insE lt) []
theorem insK_le (lt : α → α → Bool) (A : List α) (x : α) : ∀ k, insK lt A x k ≤ k
  | 0 => Nat.le_refl _
  | k + 1 => by
    unfold insK
    split
    · split
      · have := insK_le lt A x k; omega
      · omega
    · omega
theorem insE_perm (lt : α → α → Bool) (A : List α) (x : α) : (insE lt A x).Perm (x :: A) := by
  unfold insE
  have h := List.perm_middle (a := x) (l₁ := A.take (insK lt A x A.length)) (l₂ := A.drop (insK lt A x A.length))
  rwa [List.take_append_drop] at h
theorem foldl_perm (lt : α → α → Bool) : ∀ (l A : List α), (l.foldl (insE lt) A).Perm (A ++ l)
  | [], A => by simp
  | x :: l, A => by
    rw [List.foldl_cons]
    refine (foldl_perm lt l _).trans ?_; refine ((insE_perm lt A x).append_right l).trans ?_
    exact (List.perm_middle (a := x) (l₁ := A) (l₂ := l)).symm
theorem sortK_perm (lt : α → α → Bool) (l : List α) : (sortK lt l).Perm l := by simpa [sortK] using foldl_perm lt l []
theorem insE_length (lt : α → α → Bool) (A : List α) (x : α) : (insE lt A x).length = A.length + 1 := by simpa using (insE_perm lt A x).length_eq
theorem sortK_snoc (lt : α → α → Bool) (l : List α) (x : α) : sortK lt (l ++ [x]) = insE lt (sortK lt l) x := by simp [sortK]
/-- sorting images -/
theorem insK_map {β : Type} (f : α → β) (lt : α → α → Bool) (lt' : β → β → Bool) (A : List α) (x : α) (h : ∀ y ∈ A, lt' (f x) (f y) = lt x y) : ∀ k, insK lt' (A.map f) (f x) k = insK lt A x k
  | 0 => rfl
  | k + 1 => by
    unfold insK
    rw [List.getElem?_map]
    cases hA : A[k]? with
    | none => rfl
    | some y =>
      dsimp only [Option.map_some]
      rw [h y (List.mem_of_getElem? hA), insK_map f lt lt' A x h k]
theorem insE_map {β : Type} (f : α → β) (lt : α → α → Bool) (lt' : β → β → Bool) (A : List α) (x : α) (h : ∀ y ∈ A, lt' (f x) (f y) = lt x y) : insE lt' (A.map f) (f x) = (insE lt A x).map f := by
  unfold insE
  rw [List.length_map, insK_map f lt lt' A x h, List.map_append, List.map_cons, List.map_take, List.map_drop]
/-- the order that comes of a strict one -/
structure Ord (lt : α → α → Bool) : Prop where
  asym : ∀ x y, lt x y = true → lt y x = false
  trans : ∀ x y z, lt y x = false → lt z y = false → lt z x = false
theorem insK_spec {lt : α → α → Bool} (o : Ord lt) {A : List α} {x : α} (hs : A.Pairwise fun a b => lt b a = false) : ∀ k, k ≤ A.length →
    (∀ i y, i < insK lt A x k → A[i]? = some y → lt x y = false) ∧ (∀ i y, insK lt A x k ≤ i → i < k → A[i]? = some y → lt x y = true)
  | 0, _ => ⟨fun i y h => absurd h (by simp [insK]), fun i y _ h => absurd h (by omega)⟩
  | k + 1, hk => by
    have hx : A[k]? = some A[k] := List.getElem?_eq_getElem (by omega)
    unfold insK
    rw [hx]
    dsimp only
    split
    · rename_i hlt
      obtain ⟨h1, h2⟩ := insK_spec o hs k (by omega)
      refine ⟨h1, fun i y hi hik hy => ?_⟩
      by_cases hi2 : i = k
      · subst hi2; rw [hx] at hy; obtain rfl := Option.some.inj hy; exact hlt
      · exact h2 i y hi (by omega) hy
    · rename_i hlt
      refine ⟨fun i y hi hy => ?_, fun i y h1 h2 => absurd h1 (by omega)⟩
      have hlt : lt x A[k] = false := by simpa using hlt
      by_cases hi2 : i = k
      · subst hi2; rw [hx] at hy; obtain rfl := Option.some.inj hy; exact hlt
      · have hil : i < A.length := by omega
        have hye : A[i] = y := (List.getElem?_eq_some_iff.1 hy).2
        have := List.pairwise_iff_getElem.1 hs i k hil (by omega) (by omega)
        rw [hye] at this
        exact o.trans y A[k] x this hlt
theorem insE_sorted {lt : α → α → Bool} (o : Ord lt) {A : List α} {x : α} (hs : A.Pairwise fun a b => lt b a = false) : (insE lt A x).Pairwise fun a b => lt b a = false := by
  obtain ⟨h1, h2⟩ := insK_spec o (x := x) hs A.length (Nat.le_refl _)
  unfold insE
  have hp := insK_le lt A x A.length
  rw [List.pairwise_append, List.pairwise_cons]
  have hcat := hs
  rw [← List.take_append_drop (insK lt A x A.length) A, List.pairwise_append] at hcat
  have hd : ∀ b ∈ A.drop (insK lt A x A.length), lt x b = true := by
    intro b hb
    obtain ⟨j, hj, e⟩ := List.getElem_of_mem hb
    rw [List.getElem_drop] at e
    rw [List.length_drop] at hj
    exact h2 (insK lt A x A.length + j) b (by omega) (by omega) (by rw [← e]; exact List.getElem?_eq_getElem (by omega))
  have ht : ∀ a ∈ A.take (insK lt A x A.length), lt x a = false := by
    intro a ha
    obtain ⟨j, hj, e⟩ := List.getElem_of_mem ha
    rw [List.getElem_take] at e
    rw [List.length_take] at hj
    exact h1 j a (by omega) (by rw [← e]; exact List.getElem?_eq_getElem (by omega))
  refine ⟨hcat.1, ⟨fun b hb => o.asym _ _ (hd b hb), hcat.2.1⟩, fun a ha b hb => ?_⟩
  rcases List.mem_cons.1 hb with rfl | hb
  · exact ht a ha
  · exact hcat.2.2 a ha b hb
theorem foldl_sorted {lt : α → α → Bool} (o : Ord lt) : ∀ (l A : List α), (A.Pairwise fun a b => lt b a = false) → (l.foldl (insE lt) A).Pairwise fun a b => lt b a = false
  | [], _, h => h
  | _ :: l, _, h => foldl_sorted o l _ (insE_sorted o h)
theorem sortK_sorted {lt : α → α → Bool} (o : Ord lt) (l : List α) : (sortK lt l).Pairwise fun a b => lt b a = false := foldl_sorted o l [] List.Pairwise.nil
end
end Go.Proofs.YthacphfjchpoaaaGreatDoor
namespace Go.Proofs.YthacphfjchpoaaaGreatDoor

/-! ### the order of strings -/
def cS (a b : ByteArray) : Int := Lib.compareBytes a.data.toList b.data.toList
theorem cBy_neg : ∀ a b : List UInt8, Lib.compareBytes b a = - Lib.compareBytes a b
  | [], [] => rfl
  | [], _ :: _ => rfl
  | _ :: _, [] => rfl
  | a :: u, b :: v => by
    have := cBy_neg u v
    simp only [Lib.compareBytes, UInt8.lt_iff_toNat_lt]
    by_cases h1 : a.toNat < b.toNat
    · rw [if_pos h1, if_neg (by omega), if_pos h1]; rfl
    · by_cases h2 : b.toNat < a.toNat
      · simp [h1, h2]
      · simp [h1, h2, this]
theorem cBy_eq : ∀ {a b : List UInt8}, Lib.compareBytes a b = 0 → a = b
  | [], [], _ => rfl
  | [], _ :: _, h => by simp [Lib.compareBytes] at h
  | _ :: _, [], h => by simp [Lib.compareBytes] at h
  | a :: u, b :: v, h => by
    simp only [Lib.compareBytes, UInt8.lt_iff_toNat_lt] at h
    by_cases h1 : a.toNat < b.toNat
    · rw [if_pos h1] at h; cases h
    · by_cases h2 : b.toNat < a.toNat
      · rw [if_neg h1, if_pos h2] at h; cases h
      · rw [if_neg h1, if_neg h2] at h
        rw [cBy_eq h, UInt8.toNat_inj.1 (by omega : a.toNat = b.toNat)]
theorem cBy_self (a : List UInt8) : Lib.compareBytes a a = 0 := by have := cBy_neg a a; omega
theorem cBy_range : ∀ a b : List UInt8, Lib.compareBytes a b = -1 ∨ Lib.compareBytes a b = 0 ∨ Lib.compareBytes a b = 1
  | [], [] => by simp [Lib.compareBytes]
  | [], _ :: _ => by simp [Lib.compareBytes]
  | _ :: _, [] => by simp [Lib.compareBytes]
  | a :: u, b :: v => by
    have := cBy_range u v
    unfold Lib.compareBytes
    split
    · simp
    · split
      · simp
      · exact this
theorem cBy_trans : ∀ a b c : List UInt8, Lib.compareBytes a b < 0 → Lib.compareBytes b c < 0 → Lib.compareBytes a c < 0
  | [], [], _, h, _ => by simp [Lib.compareBytes] at h
  | [], _ :: _, [], _, h => by simp [Lib.compareBytes] at h
  | [], _ :: _, _ :: _, _, _ => by simp [Lib.compareBytes]
  | _ :: _, [], _, h, _ => by simp [Lib.compareBytes] at h
  | _ :: _, _ :: _, [], _, h => by simp [Lib.compareBytes] at h
  | a :: u, b :: v, c :: x, h1, h2 => by
    simp only [Lib.compareBytes, UInt8.lt_iff_toNat_lt] at h1 h2 ⊢
    by_cases a1 : a.toNat < b.toNat
    · by_cases a2 : b.toNat < c.toNat
      · rw [if_pos (by omega)]; omega
      · rw [if_neg a2] at h2
        by_cases a3 : c.toNat < b.toNat
        · rw [if_pos a3] at h2; omega
        · rw [if_pos (by omega)]; omega
    · rw [if_neg a1] at h1
      by_cases a3 : b.toNat < a.toNat
      · rw [if_pos a3] at h1; omega
      · rw [if_neg a3] at h1
        by_cases a2 : b.toNat < c.toNat
        · rw [if_pos (by omega)]; omega
        · rw [if_neg a2] at h2
          by_cases a4 : c.toNat < b.toNat
          · rw [if_pos a4] at h2; omega
          · rw [if_neg a4] at h2
            rw [if_neg (by omega), if_neg (by omega)]
            exact cBy_trans u v x h1 h2
theorem bLess_cmp : ∀ a b : List UInt8, Op.bytesLess a b = decide (Lib.compareBytes a b < 0)
  | [], [] => rfl
  | [], _ :: _ => rfl
  | _ :: _, [] => rfl
  | a :: u, b :: v => by
    have := bLess_cmp u v
    simp only [Op.bytesLess, Lib.compareBytes, UInt8.lt_iff_toNat_lt, this]
    by_cases h1 : a.toNat < b.toNat
    · simp [h1]
    · by_cases h2 : b.toNat < a.toNat
      · have h3 : ¬ a = b := by rintro rfl; omega
        simp [h1, h2, h3]
      · have h3 : a = b := UInt8.toNat_inj.1 (by omega)
        subst h3
        simp
theorem cS_neg (a b : ByteArray) : cS b a = - cS a b := cBy_neg _ _
theorem cS_eq {a b : ByteArray} (h : cS a b = 0) : a = b := by
  have := cBy_eq h
  cases a with | mk a => cases b with | mk b =>
  simp only at this
  rw [Array.toList_inj.1 this]
theorem cS_self (a : ByteArray) : cS a a = 0 := cBy_self _
theorem cS_trans {a b c : ByteArray} (h1 : cS a b < 0) (h2 : cS b c < 0) : cS a c < 0 := cBy_trans _ _ _ h1 h2
theorem cS_range (a b : ByteArray) : cS a b = -1 ∨ cS a b = 0 ∨ cS a b = 1 := cBy_range _ _
/-! ### the order of lists of strings -/
def cL : List ByteArray → List ByteArray → Int
  | [], [] => 0
  | [], _ :: _ => -1
  | _ :: _, [] => 1
  | a :: u, b :: v => if cS a b ≠ 0 then cS a b else cL u v
theorem cL_neg : ∀ a b, cL b a = - cL a b
  | [], [] => rfl
  | [], _ :: _ => rfl
  | _ :: _, [] => rfl
  | a :: u, b :: v => by
    have h1 := cL_neg u v
    have h2 := cS_neg a b
    unfold cL
    by_cases h : cS a b = 0
    · rw [if_neg (by omega), if_neg (by omega), h1]
    · rw [if_pos (by omega), if_pos h, h2]
theorem cL_eq : ∀ {a b}, cL a b = 0 → a = b
  | [], [], _ => rfl
  | [], _ :: _, h => by simp [cL] at h
  | _ :: _, [], h => by simp [cL] at h
  | a :: u, b :: v, h => by
    unfold cL at h
    by_cases h0 : cS a b = 0
    · rw [if_neg (by omega)] at h
      rw [cS_eq h0, cL_eq h]
    · rw [if_pos h0] at h; exact absurd h h0
theorem cL_self (a : List ByteArray) : cL a a = 0 := by have := cL_neg a a; omega
theorem cL_iff (a b : List ByteArray) : cL a b = 0 ↔ a = b := ⟨cL_eq, fun h => by rw [h, cL_self]⟩
theorem cL_trans : ∀ {a b c}, cL a b < 0 → cL b c < 0 → cL a c < 0
  | [], [], _, h, _ => by simp [cL] at h
  | [], _ :: _, [], _, h => by simp [cL] at h
  | [], _ :: _, _ :: _, _, _ => by simp [cL]
  | _ :: _, [], _, h, _ => by simp [cL] at h
  | _ :: _, _ :: _, [], _, h => by simp [cL] at h
  | a :: u, b :: v, c :: x, h1, h2 => by
    unfold cL at h1 h2 ⊢
    by_cases a1 : cS a b = 0
    · rw [if_neg (by omega)] at h1
      rw [cS_eq a1]
      by_cases a2 : cS b c = 0
      · rw [if_neg (by omega)] at h2 ⊢
        exact cL_trans h1 h2
      · rw [if_pos a2] at h2 ⊢
        exact h2
    · rw [if_pos a1] at h1
      by_cases a2 : cS b c = 0
      · rw [← cS_eq a2, if_pos a1]; exact h1
      · rw [if_pos a2] at h2
        have := cS_trans h1 h2
        rw [if_pos (by omega)]; exact this
/-! ### rows -/
/-- a row: its keys, its count -/
abbrev RK := List ByteArray × Int
def cR (a b : RK) : Int := if b.2 < a.2 then -1 else if a.2 < b.2 then 1 else cL a.1 b.1
theorem cR_neg (a b : RK) : cR b a = - cR a b := by
  have := cL_neg a.1 b.1
  unfold cR
  by_cases h1 : a.2 < b.2
  · rw [if_pos h1, if_neg (by omega), if_pos h1]
  · by_cases h2 : b.2 < a.2
    · rw [if_neg h1, if_pos h2, if_pos h2]; rfl
    · rw [if_neg h1, if_neg h2, if_neg h2, if_neg h1, this]
theorem cR_eq {a b : RK} (h : cR a b = 0) : a = b := by
  unfold cR at h
  by_cases h1 : b.2 < a.2
  · rw [if_pos h1] at h; cases h
  · by_cases h2 : a.2 < b.2
    · rw [if_neg h1, if_pos h2] at h; cases h
    · rw [if_neg h1, if_neg h2] at h
      exact Prod.ext (cL_eq h) (by omega)
theorem cR_trans {a b c : RK} (h1 : cR a b < 0) (h2 : cR b c < 0) : cR a c < 0 := by
  unfold cR at *
  by_cases a1 : b.2 < a.2
  · by_cases a2 : c.2 < b.2
    · rw [if_pos (by omega)]; omega
    · by_cases a3 : b.2 < c.2
      · rw [if_neg a2, if_pos a3] at h2; omega
      · rw [if_pos (by omega)]; omega
  · rw [if_neg a1] at h1
    by_cases a4 : a.2 < b.2
    · rw [if_pos a4] at h1; omega
    · rw [if_neg a4] at h1
      by_cases a2 : c.2 < b.2
      · rw [if_pos (by omega)]; omega
      · rw [if_neg a2] at h2
        by_cases a3 : b.2 < c.2
        · rw [if_pos a3] at h2; omega
        · rw [if_neg a3] at h2
          rw [if_neg (by omega), if_neg (by omega)]
          exact cL_trans h1 h2
def ltR (a b : RK) : Bool := decide (cR a b < 0)
theorem ltR_ord : Ord ltR where
  asym x y h := by
    have e := cR_neg x y
    simp only [ltR, decide_eq_true_eq, decide_eq_false_iff_not] at h ⊢
    omega
  trans x y z h1 h2 := by
    simp only [ltR, decide_eq_false_iff_not] at h1 h2 ⊢
    intro h
    have e1 := cR_neg y z
    by_cases h0 : cR z y = 0
    · rw [cR_eq h0] at h; exact h1 h
    · exact h1 (cR_trans (b := z) (by omega) h)
/-- what is sorted is settled by what it holds -/
theorem sortR_uniq {l m : List RK} (h : l.Perm m) (hl : l.Pairwise fun a b => cR b a ≥ 0) (hm : m.Pairwise fun a b => cR b a ≥ 0) : l = m := by
  refine List.Perm.eq_of_pairwise (le := fun a b => cR b a ≥ 0) (fun a b _ _ h1 h2 => ?_) hl hm h
  have e := cR_neg a b
  exact cR_eq (by omega)
theorem sortK_pw (l : List RK) : (sortK ltR l).Pairwise fun a b => cR b a ≥ 0 := (sortK_sorted ltR_ord l).imp fun {a b} h => by
  simp only [ltR, decide_eq_false_iff_not] at h; omega
theorem sortR_perm {l m : List RK} (h : l.Perm m) : sortK ltR l = sortK ltR m :=
  sortR_uniq (((sortK_perm _ l).trans h).trans (sortK_perm _ m).symm) (sortK_pw l) (sortK_pw m)
/-! ### sums -/
/-- the sum of the counts of the rows with a key -/
def tot (l : List RK) (k : List ByteArray) : Int := (l.map fun r => if r.1 = k then r.2 else 0).sum
theorem tot_nil (k : List ByteArray) : tot [] k = 0 := rfl
theorem tot_cons (r : RK) (l : List RK) (k : List ByteArray) : tot (r :: l) k = (if r.1 = k then r.2 else 0) + tot l k := by unfold tot; rw [List.map_cons, List.sum_cons]
theorem tot_append (l m : List RK) (k : List ByteArray) : tot (l ++ m) k = tot l k + tot m k := by unfold tot; rw [List.map_append, List.sum_append]
theorem tot_perm {l m : List RK} (h : l.Perm m) (k : List ByteArray) : tot l k = tot m k := by
  induction h with
  | nil => rfl
  | cons x _ ih => rw [tot_cons, tot_cons, ih]
  | swap x y l => rw [tot_cons, tot_cons, tot_cons, tot_cons]; omega
  | trans _ _ h1 h2 => rw [h1, h2]
instance decMem (k : List ByteArray) (ks : List (List ByteArray)) : Decidable (k ∈ ks) :=
  decidable_of_iff (ks.any (fun x => decide (x = k)) = true) (by rw [List.any_eq_true]; constructor <;> simp)
/-- the keys in the order of their first rows -/
def dk (l : List RK) : List (List ByteArray) := l.foldl (fun ks r => if r.1 ∈ ks then ks else ks ++ [r.1]) []
theorem dk_snoc (l : List RK) (r : RK) : dk (l ++ [r]) = if r.1 ∈ dk l then dk l else dk l ++ [r.1] := by unfold dk; rw [List.foldl_append]; rfl
theorem snocInd {α : Type} {C : List α → Prop} (h0 : C []) (h1 : ∀ l x, C l → C (l ++ [x])) : ∀ l, C l := by
  intro l
  have : ∀ n, ∀ l : List α, l.length = n → C l := by
    intro n
    induction n with
    | zero => intro l h; rw [List.eq_nil_of_length_eq_zero h]; exact h0
    | succ n ih =>
      intro l h
      have hne : l ≠ [] := by intro e; rw [e] at h; cases h
      rw [← List.dropLast_concat_getLast hne]
      exact h1 _ _ (ih _ (by rw [List.length_dropLast, h]; rfl))
  exact this _ l rfl
theorem dk_mem (l : List RK) (k : List ByteArray) : k ∈ dk l ↔ ∃ r ∈ l, r.1 = k := by
  refine snocInd (C := fun l => k ∈ dk l ↔ ∃ r ∈ l, r.1 = k) (by simp [dk]) (fun l x ih => ?_) l
  rw [dk_snoc]
  simp only [List.mem_append, List.mem_singleton]
  by_cases h : x.1 ∈ dk l
  · rw [if_pos h, ih]
    constructor
    · rintro ⟨r, hr, he⟩; exact ⟨r, .inl hr, he⟩
    · rintro ⟨r, hr | rfl, he⟩
      · exact ⟨r, hr, he⟩
      · rw [← ih, ← he]; exact h
  · rw [if_neg h, List.mem_append, ih, List.mem_singleton]
    constructor
    · rintro (⟨r, hr, he⟩ | he)
      · exact ⟨r, .inl hr, he⟩
      · exact ⟨x, .inr rfl, he.symm⟩
    · rintro ⟨r, hr | rfl, he⟩
      · exact .inl ⟨r, hr, he⟩
      · exact .inr he.symm
theorem dk_nodup (l : List RK) : (dk l).Nodup := by
  refine snocInd (C := fun l => (dk l).Nodup) (by simp [dk]) (fun l x ih => ?_) l
  rw [dk_snoc]
  by_cases h : x.1 ∈ dk l
  · rw [if_pos h]; exact ih
  · rw [if_neg h, List.nodup_append]
    refine ⟨ih, by simp, ?_⟩
    intro a ha b hb
    rw [List.mem_singleton] at hb
    subst hb
    rintro rfl
    exact h ha
/-- a row of each key with the sum of its counts -/
def grpR (l : List RK) : List RK := (dk l).map fun k => (k, tot l k)
def sumR (l : List RK) : List RK := sortK ltR (grpR l)
theorem grpR_len (l : List RK) : (grpR l).length ≤ l.length := by
  unfold grpR
  rw [List.length_map]
  refine snocInd (C := fun l => (dk l).length ≤ l.length) (by simp [dk]) (fun l x ih => ?_) l
  rw [dk_snoc, List.length_append, List.length_singleton]
  split
  · omega
  · rw [List.length_append, List.length_singleton]; omega
theorem grpR_keys (l : List RK) : (grpR l).map (·.1) = dk l := by unfold grpR; rw [List.map_map]; exact List.map_id' _
/-- the sum of a list is settled by what it holds of each key -/
theorem sumR_of {l m : List RK} (h1 : ∀ k, (∃ r ∈ l, r.1 = k) ↔ ∃ r ∈ m, r.1 = k) (h2 : ∀ k, tot l k = tot m k) : sumR l = sumR m := by
  refine sortR_perm ?_
  have hp : (dk l).Perm (dk m) := (List.perm_ext_iff_of_nodup (dk_nodup l) (dk_nodup m)).2 fun k => by rw [dk_mem, dk_mem, h1]
  unfold grpR
  have e : ∀ k, (k, tot l k) = (k, tot m k) := fun k => by rw [h2]
  simp only [e]
  exact hp.map _
theorem sumR_perm {l m : List RK} (h : l.Perm m) : sumR l = sumR m := sumR_of (fun k => by constructor <;> (rintro ⟨r, hr, he⟩; first | exact ⟨r, h.mem_iff.1 hr, he⟩ | exact ⟨r, h.mem_iff.2 hr, he⟩)) (tot_perm h)
theorem sumR_grp (l : List RK) : (sumR l).Perm (grpR l) := sortK_perm _ _
/-- of what stands once, the sum is its count -/
theorem tot_map {ks : List (List ByteArray)} (hn : ks.Nodup) (f : List ByteArray → Int) (k : List ByteArray) : tot (ks.map fun k => (k, f k)) k = if k ∈ ks then f k else 0 := by
  induction ks with
  | nil => rfl
  | cons a ks ih =>
    rw [List.nodup_cons] at hn
    rw [List.map_cons, tot_cons, ih hn.2]
    by_cases h : a = k
    · subst h
      rw [if_pos rfl, if_neg hn.1, if_pos (List.mem_cons_self ..)]; omega
    · rw [if_neg h]
      by_cases h2 : k ∈ ks
      · rw [if_pos h2, if_pos (List.mem_cons_of_mem _ h2)]; omega
      · rw [if_neg h2, if_neg (by rw [List.mem_cons]; rintro (rfl | h3); exact h rfl; exact h2 h3)]; rfl
theorem tot_miss {l : List RK} {k : List ByteArray} (h : ¬ ∃ r ∈ l, r.1 = k) : tot l k = 0 := by
  induction l with
  | nil => rfl
  | cons a l ih =>
    rw [tot_cons, if_neg (fun e => h ⟨a, List.mem_cons_self .., e⟩), ih (fun ⟨r, hr, he⟩ => h ⟨r, List.mem_cons_of_mem _ hr, he⟩)]; rfl
theorem tot_grp (l : List RK) (k : List ByteArray) : tot (grpR l) k = tot l k := by
  unfold grpR
  rw [tot_map (dk_nodup l) (tot l)]
  by_cases h : k ∈ dk l
  · rw [if_pos h]
  · rw [if_neg h, tot_miss (fun h2 => h ((dk_mem l k).2 h2))]
theorem tot_sum (l : List RK) (k : List ByteArray) : tot (sumR l) k = tot l k := by rw [tot_perm (sumR_grp l), tot_grp]
theorem sum_mem (l : List RK) (r : RK) : r ∈ sumR l ↔ r.1 ∈ dk l ∧ r.2 = tot l r.1 := by
  rw [(sumR_grp l).mem_iff]
  unfold grpR
  rw [List.mem_map]
  constructor
  · rintro ⟨k, hk, rfl⟩; exact ⟨hk, rfl⟩
  · rintro ⟨hk, he⟩; exact ⟨r.1, hk, by rw [← he]⟩
theorem sum_key (l : List RK) (k : List ByteArray) : (∃ r ∈ sumR l, r.1 = k) ↔ ∃ r ∈ l, r.1 = k := by
  rw [← dk_mem l k]
  constructor
  · rintro ⟨r, hr, rfl⟩; exact ((sum_mem l r).1 hr).1
  · intro h; exact ⟨(k, tot l k), (sum_mem l _).2 ⟨h, rfl⟩, rfl⟩
/-- the table of two lists is the merge of their tables -/
theorem sumR_merge (l m : List RK) : sumR (sumR l ++ sumR m) = sumR (l ++ m) := by
  refine sumR_of (fun k => ?_) (fun k => by rw [tot_append, tot_append, tot_sum, tot_sum])
  have e1 := sum_key l k
  have e2 := sum_key m k
  constructor
  · rintro ⟨r, hr, he⟩
    rcases List.mem_append.1 hr with h | h
    · obtain ⟨x, hx, hxe⟩ := e1.1 ⟨r, h, he⟩
      exact ⟨x, List.mem_append_left _ hx, hxe⟩
    · obtain ⟨x, hx, hxe⟩ := e2.1 ⟨r, h, he⟩
      exact ⟨x, List.mem_append_right _ hx, hxe⟩
  · rintro ⟨r, hr, he⟩
    rcases List.mem_append.1 hr with h | h
    · obtain ⟨x, hx, hxe⟩ := e1.2 ⟨r, h, he⟩
      exact ⟨x, List.mem_append_left _ hx, hxe⟩
    · obtain ⟨x, hx, hxe⟩ := e2.2 ⟨r, h, he⟩
      exact ⟨x, List.mem_append_right _ hx, hxe⟩
theorem tot_pmap (f : List ByteArray → List ByteArray) (l : List RK) (k : List ByteArray) : tot (l.map fun r => (f r.1, r.2)) k = (l.map fun r => if f r.1 = k then r.2 else 0).sum := by unfold tot; rw [List.map_map]; rfl
theorem sum_by (g : List ByteArray → Int) : ∀ l : List RK, (l.map fun r => g r.1 * r.2).sum = ((grpR l).map fun r => g r.1 * r.2).sum := by
  refine snocInd (by simp [grpR, dk]) (fun l x ih => ?_)
  have hd : ∀ (ks : List (List ByteArray)), ks.Nodup → ((ks.map fun k => (k, tot (l ++ [x]) k)).map fun r => g r.1 * r.2).sum = ((ks.map fun k => (k, tot l k)).map fun r => g r.1 * r.2).sum + if x.1 ∈ ks then g x.1 * x.2 else 0 := by
    intro ks
    induction ks with
    | nil => intro _; simp
    | cons a ks ih2 =>
      intro hn
      rw [List.nodup_cons] at hn
      have h2 := ih2 hn.2
      have he : tot (l ++ [x]) a = tot l a + if x.1 = a then x.2 else 0 := by rw [tot_append, tot_cons, tot_nil, Int.add_zero]
      simp only [List.map_cons, List.sum_cons]
      rw [h2, he]
      by_cases h : x.1 = a
      · subst h
        rw [if_pos rfl, if_neg hn.1, if_pos (List.mem_cons_self ..), Int.mul_add]; omega
      · rw [if_neg h, Int.add_zero]
        by_cases h3 : x.1 ∈ ks
        · rw [if_pos h3, if_pos (List.mem_cons_of_mem _ h3)]; omega
        · rw [if_neg h3, if_neg (by rw [List.mem_cons]; rintro (h4 | h4); exact h h4; exact h3 h4)]; omega
  rw [List.map_append, List.sum_append, ih]
  unfold grpR
  rw [dk_snoc]
  by_cases h : x.1 ∈ dk l
  · rw [if_pos h, hd _ (dk_nodup l), if_pos h]; simp
  · rw [if_neg h, List.map_append, List.map_append, List.sum_append, hd _ (dk_nodup l), if_neg h]
    simp [tot_append, tot_cons, tot_nil, tot_miss (fun h2 => h ((dk_mem l x.1).2 h2))]
/-- the margin of a table is the table of the margin's rows -/
theorem sumR_margin (f : List ByteArray → List ByteArray) (l : List RK) : sumR ((sumR l).map fun r => (f r.1, r.2)) = sumR (l.map fun r => (f r.1, r.2)) := by
  have h0 : sumR ((sumR l).map fun r => (f r.1, r.2)) = sumR ((grpR l).map fun r => (f r.1, r.2)) := sumR_perm ((sumR_grp l).map _)
  rw [h0]
  refine sumR_of (fun k => ?_) (fun k => ?_)
  · constructor
    · rintro ⟨r, hr, he⟩
      obtain ⟨y, hy, rfl⟩ := List.mem_map.1 hr
      unfold grpR at hy
      obtain ⟨z, hz, rfl⟩ := List.mem_map.1 hy
      obtain ⟨q, hq, hqe⟩ := (dk_mem l z).1 hz
      exact ⟨_, List.mem_map.2 ⟨q, hq, rfl⟩, by rw [← he]; show f q.1 = f z; rw [hqe]⟩
    · rintro ⟨r, hr, he⟩
      obtain ⟨y, hy, rfl⟩ := List.mem_map.1 hr
      refine ⟨(f y.1, tot l y.1), List.mem_map.2 ⟨(y.1, tot l y.1), ?_, rfl⟩, he⟩
      unfold grpR
      exact List.mem_map.2 ⟨y.1, (dk_mem l y.1).2 ⟨y, hy, rfl⟩, rfl⟩
  · rw [tot_pmap, tot_pmap]
    have := sum_by (fun z => if f z = k then 1 else 0) l
    have e : ∀ m : List RK, (m.map fun r => if f r.1 = k then r.2 else 0) = m.map fun r => (if f r.1 = k then 1 else 0) * r.2 := fun m => by
      refine List.map_congr_left fun r _ => ?_
      split <;> simp
    rw [e, e]; exact this.symm
/-- the counts of a table -/
def cntR (l : List RK) : Int := (l.map (·.2)).sum
theorem cntR_perm {l m : List RK} (h : l.Perm m) : cntR l = cntR m := by
  unfold cntR
  induction h with
  | nil => rfl
  | cons x _ ih => rw [List.map_cons, List.sum_cons, List.map_cons, List.sum_cons, ih]
  | swap x y l => simp only [List.map_cons, List.sum_cons]; omega
  | trans _ _ h1 h2 => rw [h1, h2]
theorem cntR_sum (l : List RK) : cntR (sumR l) = cntR l := by
  rw [cntR_perm (sumR_grp l)]
  have := sum_by (fun _ => 1) l
  simpa [cntR] using this.symm
/-! ### join -/
def joinL : List ByteArray → List UInt8
  | [] => []
  | k :: ks => Lib.decDigits k.size ++ 32 :: (k.data.toList ++ joinL ks)
theorem joinL_append : ∀ a b, joinL (a ++ b) = joinL a ++ joinL b
  | [], _ => rfl
  | k :: ks, b => by
    rw [List.cons_append, joinL, joinL, joinL_append ks b]; simp
theorem dec_step {u : Nat} (h : 10 ≤ u) : Lib.decDigits u = Lib.decDigits (u / 10) ++ [UInt8.ofNat (48 + u % 10)] := by
  rw [Lib.decDigits, dif_neg (by omega)]
theorem dec_space : ∀ (n u : Nat), u < n → ∀ x ∈ Lib.decDigits u, x ≠ 32
  | 0, _, h => by omega
  | n + 1, u, h => by
    have hone : ∀ d < 10, (UInt8.ofNat (48 + d)) ≠ 32 := by decide
    intro x hx
    by_cases h1 : u < 10
    · rw [Lib.decDigits_one h1, List.mem_singleton] at hx
      subst hx; exact hone u h1
    · rw [dec_step (by omega)] at hx
      rcases List.mem_append.1 hx with hx | hx
      · exact dec_space n (u / 10) (by omega) x hx
      · rw [List.mem_singleton] at hx; subst hx; exact hone _ (Nat.mod_lt _ (by omega))
def decV (l : List UInt8) : Nat := l.foldl (fun a d => a * 10 + (d.toNat - 48)) 0
theorem dec_val : ∀ (n u : Nat), u < n → decV (Lib.decDigits u) = u
  | 0, _, h => by omega
  | n + 1, u, h => by
    have hone : ∀ d < 10, (UInt8.ofNat (48 + d)).toNat - 48 = d := by decide
    by_cases h1 : u < 10
    · rw [Lib.decDigits_one h1]
      show 0 * 10 + _ = _
      rw [hone u h1]; omega
    · rw [dec_step (by omega)]
      unfold decV
      rw [List.foldl_append]
      have := dec_val n (u / 10) (by omega)
      unfold decV at this
      rw [this]
      show u / 10 * 10 + _ = _
      rw [hone _ (Nat.mod_lt _ (by omega))]; omega
theorem splitAt32 : ∀ {p q X Y : List UInt8}, (∀ x ∈ p, x ≠ 32) → (∀ x ∈ q, x ≠ 32) → p ++ 32 :: X = q ++ 32 :: Y → p = q ∧ X = Y
  | [], [], _, _, _, _, h => by simpa using h
  | [], b :: q, _, _, _, hq, h => by
    simp only [List.nil_append, List.cons_append, List.cons.injEq] at h
    exact absurd h.1.symm (hq b (List.mem_cons_self ..))
  | a :: p, [], _, _, hp, _, h => by
    simp only [List.nil_append, List.cons_append, List.cons.injEq] at h
    exact absurd h.1 (hp a (List.mem_cons_self ..))
  | a :: p, b :: q, _, _, hp, hq, h => by
    simp only [List.cons_append, List.cons.injEq] at h
    obtain ⟨h1, h2⟩ := splitAt32 (fun x hx => hp x (List.mem_cons_of_mem _ hx)) (fun x hx => hq x (List.mem_cons_of_mem _ hx)) h.2
    exact ⟨by rw [h.1, h1], h2⟩
theorem joinL_inj : ∀ {a b : List ByteArray}, joinL a = joinL b → a = b
  | [], [], _ => rfl
  | [], k :: ks, h => by
    rw [joinL, joinL] at h
    have := congrArg List.length h
    simp at this
  | k :: ks, [], h => by
    rw [joinL, joinL] at h
    have := congrArg List.length h
    simp at this
  | k :: ks, j :: js, h => by
    rw [joinL, joinL] at h
    obtain ⟨h1, h2⟩ := splitAt32 (dec_space _ _ (Nat.lt_succ_self _)) (dec_space _ _ (Nat.lt_succ_self _)) h
    have hs : k.size = j.size := by
      have := congrArg decV h1
      rwa [dec_val _ _ (Nat.lt_succ_self _), dec_val _ _ (Nat.lt_succ_self _)] at this
    have hl : k.data.toList.length = j.data.toList.length := by rw [Array.length_toList, Array.length_toList]; exact hs
    obtain ⟨h3, h4⟩ := List.append_inj h2 hl
    rw [joinL_inj h4]
    congr 1
    cases k with | mk k => cases j with | mk j =>
    simp only at h3
    rw [Array.toList_inj.1 h3]
def joinB (ks : List ByteArray) : ByteArray := ⟨(joinL ks).toArray⟩
theorem joinB_inj {a b : List ByteArray} (h : joinB a = joinB b) : a = b := by
  have : (joinL a).toArray = (joinL b).toArray := congrArg ByteArray.data h
  exact joinL_inj (by simpa using this)
end Go.Proofs.YthacphfjchpoaaaGreatDoor
namespace Go.Proofs.YthacphfjchpoaaaGreatDoor

/-- whether a row may stand behind others -/
def okR (n : Nat) (pre : List RK) (r : RK) : Bool :=
  decide (1 ≤ r.1.length) && (decide (r.1.length ≤ 4) && (decide (r.1.length = n) && (decide (1 ≤ r.2) && (decide (∀ x ∈ pre, x.1 ≠ r.1) && (match pre.getLast? with
    | none => true
    | some p => decide (cR p r < 0))))))
def validG (n : Nat) : List RK → List RK → Bool
  | _, [] => true
  | pre, r :: l => okR n pre r && validG n (pre ++ [r]) l
/-- the number of keys of the first row -/
def keysN (l : List RK) : Nat := match l with
  | [] => 0
  | r :: _ => r.1.length
def validR (l : List RK) : Bool := validG (keysN l) [] l
theorem validG_spec (n : Nat) : ∀ (l pre : List RK), validG n pre l = true ↔ ∀ i r, l[i]? = some r → okR n (pre ++ l.take i) r = true
  | [], pre => by simp [validG]
  | a :: l, pre => by
    rw [validG, Bool.and_eq_true, validG_spec n l (pre ++ [a])]
    constructor
    · rintro ⟨h1, h2⟩ i r hi
      cases i with
      | zero =>
        simp only [List.getElem?_cons_zero, Option.some.injEq] at hi
        subst hi
        simpa using h1
      | succ i =>
        have := h2 i r (by simpa using hi)
        simpa using this
    · intro h
      refine ⟨by simpa using h 0 a rfl, fun i r hi => ?_⟩
      have := h (i + 1) r (by simpa using hi)
      simpa using this
theorem validR_at {l : List RK} (h : validR l = true) {i : Nat} {r : RK} (hi : l[i]? = some r) : okR (keysN l) (l.take i) r = true := by
  have := (validG_spec (keysN l) l []).1 h i r hi
  simpa using this
theorem validR_not {l : List RK} {i : Nat} {r : RK} (hi : l[i]? = some r) (h : okR (keysN l) (l.take i) r = false) : validR l = false := by
  cases hv : validR l with
  | false => rfl
  | true => rw [validR_at hv hi] at h; cases h
theorem okR_parts {n : Nat} {pre : List RK} {r : RK} (h : okR n pre r = true) : 1 ≤ r.1.length ∧ r.1.length ≤ 4 ∧ r.1.length = n ∧ 1 ≤ r.2 ∧ (∀ x ∈ pre, x.1 ≠ r.1) ∧ ∀ p, pre.getLast? = some p → cR p r < 0 := by
  unfold okR at h
  simp only [Bool.and_eq_true, decide_eq_true_eq] at h
  obtain ⟨h1, h2, h3, h4, h5, h6⟩ := h
  refine ⟨h1, h2, h3, h4, h5, fun p hp => ?_⟩
  rw [hp] at h6
  simpa using h6
theorem validR_mem {l : List RK} (h : validR l = true) {r : RK} (hr : r ∈ l) : 1 ≤ r.1.length ∧ r.1.length ≤ 4 ∧ r.1.length = keysN l ∧ 1 ≤ r.2 := by
  obtain ⟨i, hi⟩ := List.getElem?_of_mem hr
  obtain ⟨h1, h2, h3, h4, _⟩ := okR_parts (validR_at h hi)
  exact ⟨h1, h2, h3, h4⟩
theorem validG_of (n : Nat) (hn : 1 ≤ n ∧ n ≤ 4) : ∀ (l pre : List RK), (pre ++ l).Pairwise (fun a b => cR a b < 0) → ((pre ++ l).map (·.1)).Nodup → (∀ r ∈ l, r.1.length = n ∧ 1 ≤ r.2) → validG n pre l = true
  | [], pre, _, _, _ => rfl
  | r :: l, pre, h1, h2, h3 => by
    rw [validG, Bool.and_eq_true]
    refine ⟨?_, validG_of n hn l (pre ++ [r]) (by simpa using h1) (by simpa using h2) (fun x hx => h3 x (List.mem_cons_of_mem _ hx))⟩
    have h4 := h3 r (List.mem_cons_self ..)
    unfold okR
    simp only [Bool.and_eq_true, decide_eq_true_eq]
    refine ⟨by omega, by omega, h4.1, h4.2, fun x hx he => ?_, ?_⟩
    · rw [List.map_append, List.nodup_append] at h2
      exact h2.2.2 x.1 (List.mem_map_of_mem hx) r.1 (List.mem_map_of_mem (List.mem_cons_self ..)) he
    · cases hp : pre.getLast? with
      | none => rfl
      | some p =>
        have := (List.pairwise_append.1 h1).2.2 p (List.mem_of_getLast? hp) r (List.mem_cons_self ..)
        simpa using this
theorem sumR_keys (l : List RK) : ((sumR l).map (·.1)).Nodup := by
  have := (sumR_grp l).map (·.1)
  rw [grpR_keys] at this
  exact this.nodup_iff.2 (dk_nodup l)
theorem sumR_lt (l : List RK) : (sumR l).Pairwise fun a b => cR a b < 0 := by
  have h1 : (sumR l).Pairwise fun a b => cR b a ≥ 0 := sortK_pw (grpR l)
  have h2 : (sumR l).Pairwise fun a b => a.1 ≠ b.1 := List.pairwise_map.1 (sumR_keys l)
  refine (h1.and h2).imp fun {a b} h => ?_
  have e := cR_neg a b
  by_cases h0 : cR a b = 0
  · exact absurd (congrArg Prod.fst (cR_eq h0)) h.2
  · omega
theorem tot_pos {l : List RK} (h : ∀ r ∈ l, 1 ≤ r.2) {k : List ByteArray} (hk : ∃ r ∈ l, r.1 = k) : 1 ≤ tot l k := by
  have hnn : ∀ m : List RK, (∀ r ∈ m, 1 ≤ r.2) → 0 ≤ tot m k := by
    intro m
    induction m with
    | nil => intro _; exact Int.le_refl _
    | cons a m ih =>
      intro hm
      have h1 := ih fun r hr => hm r (List.mem_cons_of_mem _ hr)
      have h2 := hm a (List.mem_cons_self ..)
      rw [tot_cons]
      split <;> omega
  induction l with
  | nil => obtain ⟨r, hr, _⟩ := hk; cases hr
  | cons a l ih =>
    rw [tot_cons]
    have h2 := h a (List.mem_cons_self ..)
    have h3 := hnn l fun r hr => h r (List.mem_cons_of_mem _ hr)
    by_cases e : a.1 = k
    · rw [if_pos e]; omega
    · obtain ⟨r, hr, he⟩ := hk
      rcases List.mem_cons.1 hr with rfl | hr
      · exact absurd he e
      · have := ih (fun r hr => h r (List.mem_cons_of_mem _ hr)) ⟨r, hr, he⟩
        rw [if_neg e]; omega
/-- a table is valid -/
theorem sumR_valid {n : Nat} (hn : 1 ≤ n ∧ n ≤ 4) {l : List RK} (h : ∀ r ∈ l, r.1.length = n ∧ 1 ≤ r.2) : validR (sumR l) = true := by
  have hm : ∀ r ∈ sumR l, r.1.length = n ∧ 1 ≤ r.2 := by
    intro r hr
    obtain ⟨h1, h2⟩ := (sum_mem l r).1 hr
    obtain ⟨x, hx, he⟩ := (dk_mem l r.1).1 h1
    exact ⟨by rw [← he]; exact (h x hx).1, by rw [h2]; exact tot_pos (fun y hy => (h y hy).2) ⟨x, hx, he⟩⟩
  have hv := validG_of n hn (sumR l) [] (by simpa using sumR_lt l) (by simpa using sumR_keys l) hm
  unfold validR
  cases hl : sumR l with
  | nil => rfl
  | cons a t =>
    have := (hm a (by rw [hl]; exact List.mem_cons_self ..)).1
    show validG a.1.length [] (a :: t) = true
    rw [this, ← hl]; exact hv
/-- the sum of all counts, of a valid table -/
def totalR (l : List RK) : Int := if validR l = true then cntR l else 0
theorem cntR_snoc (l : List RK) (r : RK) : cntR (l ++ [r]) = cntR l + r.2 := by unfold cntR; rw [List.map_append, List.sum_append]; simp
theorem cntR_bound : ∀ {l : List RK} {m : Int}, 0 ≤ m → (∀ r ∈ l, 0 ≤ r.2 ∧ r.2 ≤ m) → 0 ≤ cntR l ∧ cntR l ≤ l.length * m
  | [], m, _, _ => by simp [cntR]
  | a :: l, m, hm, h => by
    have h1 := cntR_bound hm fun r hr => h r (List.mem_cons_of_mem _ hr)
    have h2 := h a (List.mem_cons_self ..)
    unfold cntR at *
    rw [List.map_cons, List.sum_cons, List.length_cons]
    have e : ((l.length + 1 : Nat) : Int) * m = l.length * m + m := by rw [Int.natCast_add, Int.add_mul]; simp
    rw [e]; omega
def marE (l : List RK) (k : Int) : Int := if validR l = false ∨ k < 0 ∨ (l ≠ [] ∧ (keysN l : Int) ≤ k) then 1 else 0
def marR (l : List RK) (k : Nat) : List RK := sumR (l.map fun r => ([r.1.getD k ⟨#[]⟩], r.2))
def mergeE (l m : List RK) : Int := if validR l = false ∨ validR m = false then 1 else if l ≠ [] ∧ m ≠ [] ∧ keysN l ≠ keysN m then 15 else 0
end Go.Proofs.YthacphfjchpoaaaGreatDoor
namespace Go.Proofs.YthacphfjchpoaaaGreatDoor
open Go.RowKit

/-- the entries of a map, in the order in which they came -/
def MapS (es : List MapEntry) (ks : List (ByteArray × Value)) : Prop := es.map (fun e => (e.key, e.val)) = ks.map fun p => (Value.string p.1, p.2)
def lookS (ks : List (ByteArray × Value)) (s : ByteArray) : Option Value := (ks.find? fun p => decide (p.1 = s)).map (·.2)
theorem MapS.nil : MapS [] [] := rfl
theorem lookS_snoc (ks : List (ByteArray × Value)) (s t : ByteArray) (v : Value) : lookS (ks ++ [(s, v)]) t = match lookS ks t with
  | some u => some u
  | none => if s = t then some v else none := by
  unfold lookS
  rw [List.find?_append]
  cases h : ks.find? fun p => decide (p.1 = t) with
  | some p => rfl
  | none =>
    by_cases e : s = t
    · simp [e]
    · simp [e]
theorem findNow_S (s : ByteArray) : ∀ (es : List MapEntry) (ks : List (ByteArray × Value)) (i : Nat), MapS es ks →
    (lookS ks s = none ∧ Instr.findNow .string (.string s) es i = some none) ∨ ∃ j v, lookS ks s = some v ∧ Instr.findNow .string (.string s) es i = some (some (j, v))
  | [], ks, i, h => by
    have : ks = [] := by cases ks with
      | nil => rfl
      | cons a l => simp [MapS] at h
    subst this
    exact .inl ⟨rfl, rfl⟩
  | e :: es, [], i, h => by simp [MapS] at h
  | e :: es, k :: ks, i, h => by
    simp only [MapS, List.map_cons, List.cons.injEq, Prod.mk.injEq] at h
    obtain ⟨⟨h1, h2⟩, h3⟩ := h
    have hq : Instr.sameNow .string (.string s) e.key = some (s == k.1) := by rw [h1]; rfl
    by_cases he : k.1 = s
    · have hb : (s == k.1) = true := (MapKept.bytes_beq s k.1).2 he.symm
      refine .inr ⟨i, k.2, ?_, ?_⟩
      · unfold lookS; rw [List.find?_cons_of_pos (by simpa using he)]; rfl
      · unfold Instr.findNow; rw [hq, hb, h2]
    · have hb : (s == k.1) = false := by
        rw [Bool.eq_false_iff]; intro h; exact he ((MapKept.bytes_beq s k.1).1 h).symm
      have hl : lookS (k :: ks) s = lookS ks s := by unfold lookS; rw [List.find?_cons_of_neg (by simpa using he)]
      rw [hl]
      have hf : Instr.findNow .string (.string s) (e :: es) i = Instr.findNow .string (.string s) es (i + 1) := by
        conv => lhs; unfold Instr.findNow
        rw [hq, hb]
      rw [hf]
      exact findNow_S s es ks (i + 1) h3
section
variable {P : Program} {X : Cx} {e : Env} {l : List (Nat × Obj)} {H : Hp} {D : List Deferred} {k : List It} {all : Array Oper} {rest : List Oper} {dst : Option Tmp} {ty : TypeId} {pos : String} {after : Array Edge} {gd : Option (Nat × Bool)}
theorem T.newMap {t : TypeId} {d : Nat} (hw : Wanted e all ⟨some d, .makeMap t none, ty, pos, after, gd⟩) (hN : Nat.blt d X.N = true)
    (h : ∀ b, T P X ((d, .map (some b)) :: e) ((b, .map #[] 0) :: l) H D (.ops all rest :: k)) :
    T P X e l H D (.ops all (⟨some d, .makeMap t none, ty, pos, after, gd⟩ :: rest) :: k) :=
  T.step hw rfl hN fun a w ha hw' => by
    refine ⟨_, _, _, w.alloc (.map #[] 0), ?_, hw'.alloc _, h w.heap.size⟩
    simp [execOp, Instr.makeMap]
/-- a key that is new -/
theorem T.mapPush {t kt vt : TypeId} (hm : P.underlying t = some (.map kt vt)) (hk : P.underlying kt = some .string) {x y z : Operand} {b : Nat} {es : Array MapEntry} {clock : Nat} {ks : List (ByteArray × Value)} {s : ByteArray} {v : Value}
    (hw : Wanted e all ⟨none, .mapUpdate t x y z, ty, pos, after, gd⟩) (hx : evE e x = some (.map (some b))) (hy : evE e y = some (.string s)) (hz : evE e z = some v) (hs : MapS es.toList ks) (hn : lookS ks s = none) (al : List (Nat × Obj)) {bl : List (Nat × Obj)}
    (hl : l = al ++ (b, .map es clock) :: bl)
    (h : ∀ es' clock', MapS es'.toList (ks ++ [(s, v)]) → T P X e (al ++ (b, .map es' clock') :: bl) H D (.ops all rest :: k)) :
    T P X e l H D (.ops all (⟨none, .mapUpdate t x y z, ty, pos, after, gd⟩ :: rest) :: k) :=
  T.step0 hw rfl fun a w ha hw' => by
    subst hl
    have hb : w.heap[b]? = some (.map es clock) := (hw'.own (b, .map es clock) (by simp)).1
    have hup : ∀ (al : List (Nat × Obj)) o', Upd (al ++ (b, .map es clock) :: bl) b (.map es clock) o' (al ++ (b, o') :: bl) := by
      intro al o'
      induction al with
      | nil => exact .head
      | cons p al ih => exact .tail ih
    have hc : (Instr.checkKey false 10000 kt (.string s)).run P w = .ok () w := MapKept.run_checkKey hk (show MapKept.IsKey .string (.string s) from trivial) false 9999
    rcases findNow_S s es.toList ks 0 hs with ⟨_, g2⟩ | ⟨j, v', g1, _⟩
    · have hf := MapKept.run_findKey (w := w) hk g2
      refine ⟨_, H, _, ?_, hw'.upd (hup al (.map (es.push { key := .string s, val := v, born := clock }) (clock + 1))), h _ _ ?_⟩
      · simp [execOp, ha.eval hx, ha.eval hy, ha.eval hz, Instr.mapUpdate, run_underlying hm, MapKept.run_getObj_map hb, hc, hf, MapKept.run_setObj_map _ hb, Result.andThen, World.putObj]
      · unfold MapS at *
        rw [Array.toList_push, List.map_append, hs, List.map_append]; rfl
    · rw [hn] at g1; cases g1
theorem PV.mapGet {t kt vt : TypeId} {z : Value} (hm : P.underlying t = some (.map kt vt)) (hk : P.underlying kt = some .string) (hz : ∀ w, (zeroValue vt).run P w = .ok z w) {x y : Operand} {b : Nat} {es : Array MapEntry} {clock : Nat} {ks : List (ByteArray × Value)} {s : ByteArray}
    (hx : evE e x = some (.map (some b))) (hy : evE e y = some (.string s)) (hs : MapS es.toList ks) (hl : (b, Obj.map es clock) ∈ l) :
    PV P e l H ⟨dst, .lookup t x y false, ty, pos, after, gd⟩ ((lookS ks s).getD z) := PV.mk fun X D a w ha hw' => by
  have hb : w.heap[b]? = some (.map es clock) := (hw'.own (b, .map es clock) hl).1
  have hc : ∀ em, (Instr.checkKey em 10000 kt (.string s)).run P w = .ok () w := fun em => MapKept.run_checkKey hk (show MapKept.IsKey .string (.string s) from trivial) em 9999
  rcases findNow_S s es.toList ks 0 hs with ⟨g1, g2⟩ | ⟨j, v', g1, g2⟩
  · have hf := MapKept.run_findKey (w := w) hk g2
    rw [g1]
    simp [execOp, ha.eval hx, ha.eval hy, Instr.lookup, run_underlying hm, MapKept.run_getObj_map hb, hc, hf, hz, Result.andThen]
  · have hf := MapKept.run_findKey (w := w) hk g2
    rw [g1]
    simp [execOp, ha.eval hx, ha.eval hy, Instr.lookup, run_underlying hm, MapKept.run_getObj_map hb, hc, hf, Result.andThen]
theorem PV.mapGet2 {t kt vt : TypeId} {z : Value} (hm : P.underlying t = some (.map kt vt)) (hk : P.underlying kt = some .string) (hz : ∀ w, (zeroValue vt).run P w = .ok z w) {x y : Operand} {b : Nat} {es : Array MapEntry} {clock : Nat} {ks : List (ByteArray × Value)} {s : ByteArray}
    (hx : evE e x = some (.map (some b))) (hy : evE e y = some (.string s)) (hs : MapS es.toList ks) (hl : (b, Obj.map es clock) ∈ l) :
    PV P e l H ⟨dst, .lookup t x y true, ty, pos, after, gd⟩ (.tuple #[(lookS ks s).getD z, .bool (lookS ks s).isSome]) := PV.mk fun X D a w ha hw' => by
  have hb : w.heap[b]? = some (.map es clock) := (hw'.own (b, .map es clock) hl).1
  have hc : ∀ em, (Instr.checkKey em 10000 kt (.string s)).run P w = .ok () w := fun em => MapKept.run_checkKey hk (show MapKept.IsKey .string (.string s) from trivial) em 9999
  rcases findNow_S s es.toList ks 0 hs with ⟨g1, g2⟩ | ⟨j, v', g1, g2⟩
  · have hf := MapKept.run_findKey (w := w) hk g2
    rw [g1]
    simp [execOp, ha.eval hx, ha.eval hy, Instr.lookup, run_underlying hm, MapKept.run_getObj_map hb, hc, hf, hz, Result.andThen]
  · have hf := MapKept.run_findKey (w := w) hk g2
    rw [g1]
    simp [execOp, ha.eval hx, ha.eval hy, Instr.lookup, run_underlying hm, MapKept.run_getObj_map hb, hc, hf, Result.andThen]
end
end Go.Proofs.YthacphfjchpoaaaGreatDoor
