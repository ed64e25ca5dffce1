/- Own layer: shifts, and, or, xor of machine integers.
   Own layer: rows of natural numbers of a machine kind; slices made with room; copy into a row of the walk's own.
   Own layer: elements of a row of the walk's own that change places.
   Own layer: a scope through which the run goes without a jump; a label; a string's byte.
   Own layer: a bunch of rows of the walk's own, each of which may grow.
   Own layer: slices.SortFunc over a slice of the walk's own, by the library's proved contract.
   Own layer: maps whose keys stand for something: sets, and rounds over a map in whatever order.
   Own layer: maps with strings for keys that are changed and ranged over. -/
import Derived.Laws.BitsLemmas
import Derived.Laws.Bits64
import Derived.Shelf.SlSortCmp.NoneTotal
import Derived.MapKept
import Derived.Maps.RangeRun
import Derived.WideKeyRuns
import Derived.Test.YtecogbhbkccblaaGreatDoorG2
set_option linter.all false
namespace Go.Proofs.YtecogbhbkccblaaGreatDoor
open Go.RowKit

def shrI (k : IntKind) (m n : Int) : Int := m.fdiv (2 ^ (min n.toNat k.bits))
def shlI (k : IntKind) (m n : Int) : Int := k.wrap (m * 2 ^ (min n.toNat k.bits))
section
variable {P : Program} {e : Env} {l : List (Nat × Obj)} {H : Hp} {dst : Option Tmp} {ty : TypeId} {pos : String} {after : Array Edge} {gd : Option (Nat × Bool)}
theorem PV.shr {x y : Operand} {t t' : TypeId} {k k' : IntKind} {m n : Int} (hx : evE e x = some (.int k m)) (hy : evE e y = some (.int k' n)) (h0 : 0 ≤ n) :
    PV P e l H ⟨dst, .binOp .shr t x y t', ty, pos, after, gd⟩ (.int k (shrI k m n)) := PV.mk fun X D a w ha hw => by
  have h0' : ¬ n < 0 := by omega
  simp [execOp, ha.eval hx, ha.eval hy, binOp, eqGuard, Op.shift, h0', shrI]
theorem PV.shl {x y : Operand} {t t' : TypeId} {k k' : IntKind} {m n : Int} (hx : evE e x = some (.int k m)) (hy : evE e y = some (.int k' n)) (h0 : 0 ≤ n) :
    PV P e l H ⟨dst, .binOp .shl t x y t', ty, pos, after, gd⟩ (.int k (shlI k m n)) := PV.mk fun X D a w ha hw => by
  have h0' : ¬ n < 0 := by omega
  simp [execOp, ha.eval hx, ha.eval hy, binOp, eqGuard, Op.shift, h0', shlI]
theorem PV.band {x y : Operand} {t t' : TypeId} {k : IntKind} {m n : Int} (hx : evE e x = some (.int k m)) (hy : evE e y = some (.int k n)) :
    PV P e l H ⟨dst, .binOp .and t x y t', ty, pos, after, gd⟩ (.int k (bits .and k m n)) := PV.mk fun X D a w ha hw => by
  simp [execOp, ha.eval hx, ha.eval hy, binOp, eqGuard, intBits_and]
theorem PV.bor {x y : Operand} {t t' : TypeId} {k : IntKind} {m n : Int} (hx : evE e x = some (.int k m)) (hy : evE e y = some (.int k n)) :
    PV P e l H ⟨dst, .binOp .or t x y t', ty, pos, after, gd⟩ (.int k (bits .or k m n)) := PV.mk fun X D a w ha hw => by
  simp [execOp, ha.eval hx, ha.eval hy, binOp, eqGuard, intBits_or]
theorem PV.bxor {x y : Operand} {t t' : TypeId} {k : IntKind} {m n : Int} (hx : evE e x = some (.int k m)) (hy : evE e y = some (.int k n)) :
    PV P e l H ⟨dst, .binOp .xor t x y t', ty, pos, after, gd⟩ (.int k (bits .xor k m n)) := PV.mk fun X D a w ha hw => by
  simp [execOp, ha.eval hx, ha.eval hy, binOp, eqGuard, intBits_xor]
/-- the same, with the value as it is known -/
theorem PV.shrR {x y : Operand} {t t' : TypeId} {k k' : IntKind} {m n r : Int} (hx : evE e x = some (.int k m)) (hy : evE e y = some (.int k' n)) (hr : shrI k m n = r) (h0 : 0 ≤ n) :
    PV P e l H ⟨dst, .binOp .shr t x y t', ty, pos, after, gd⟩ (.int k r) := hr ▸ PV.shr hx hy h0
theorem PV.shlR {x y : Operand} {t t' : TypeId} {k k' : IntKind} {m n r : Int} (hx : evE e x = some (.int k m)) (hy : evE e y = some (.int k' n)) (hr : shlI k m n = r) (h0 : 0 ≤ n) :
    PV P e l H ⟨dst, .binOp .shl t x y t', ty, pos, after, gd⟩ (.int k r) := hr ▸ PV.shl hx hy h0
theorem PV.bandR {x y : Operand} {t t' : TypeId} {k : IntKind} {m n r : Int} (hx : evE e x = some (.int k m)) (hy : evE e y = some (.int k n)) (hr : bits .and k m n = r) :
    PV P e l H ⟨dst, .binOp .and t x y t', ty, pos, after, gd⟩ (.int k r) := hr ▸ PV.band hx hy
theorem PV.borR {x y : Operand} {t t' : TypeId} {k : IntKind} {m n r : Int} (hx : evE e x = some (.int k m)) (hy : evE e y = some (.int k n)) (hr : bits .or k m n = r) :
    PV P e l H ⟨dst, .binOp .or t x y t', ty, pos, after, gd⟩ (.int k r) := hr ▸ PV.bor hx hy
theorem PV.bxorR {x y : Operand} {t t' : TypeId} {k : IntKind} {m n r : Int} (hx : evE e x = some (.int k m)) (hy : evE e y = some (.int k n)) (hr : bits .xor k m n = r) :
    PV P e l H ⟨dst, .binOp .xor t x y t', ty, pos, after, gd⟩ (.int k r) := hr ▸ PV.bxor hx hy
end
/-! #### their values at natural numbers -/
class ArrOf (P : Program) (t : TypeId) (n el sz : outParam Nat) : Prop where
  h : P.underlying t = some (.array n el)
  s : ∀ w, (sizeOf el).run P w = .ok sz w
class BW (k : IntKind) (j : outParam Nat) : Prop where
  hj : j ≤ k.bits
  hk : ∀ n : Int, 0 ≤ n → n < 2 ^ j → k.wrap n = n
instance : BW .i64 63 := ⟨by decide, fun n h0 h1 => by rw [IntKind.wrap_i64]; omega⟩
instance : BW .u64 64 := ⟨by decide, fun n h0 h1 => by rw [IntKind.wrap_u64]; omega⟩
instance : BW .u32 32 := ⟨by decide, fun n h0 h1 => by rw [IntKind.wrap_u32]; omega⟩
instance : BW .u8 8 := ⟨by decide, fun n h0 h1 => by rw [IntKind.wrap_u8]; omega⟩
section
variable {P : Program} {e : Env} {l : List (Nat × Obj)} {H : Hp} {dst : Option Tmp} {ty : TypeId} {pos : String} {after : Array Edge} {gd : Option (Nat × Bool)}
theorem PV.addB {x y : Operand} {t t' : TypeId} {k : IntKind} {j : Nat} {m n : Int} [h : BW k j] (hx : evE e x = some (.int k m)) (hy : evE e y = some (.int k n)) (hr : 0 ≤ m + n ∧ m + n < 2 ^ j) :
    PV P e l H ⟨dst, .binOp .add t x y t', ty, pos, after, gd⟩ (.int k (m + n)) := by have := PV.addK (P := P) (l := l) (H := H) (dst := dst) (ty := ty) (pos := pos) (after := after) (gd := gd) (t := t) (t' := t') hx hy; rwa [h.hk _ hr.1 hr.2] at this
theorem PV.subB {x y : Operand} {t t' : TypeId} {k : IntKind} {j : Nat} {m n : Int} [h : BW k j] (hx : evE e x = some (.int k m)) (hy : evE e y = some (.int k n)) (hr : 0 ≤ m - n ∧ m - n < 2 ^ j) :
    PV P e l H ⟨dst, .binOp .sub t x y t', ty, pos, after, gd⟩ (.int k (m - n)) := by have := PV.subK (P := P) (l := l) (H := H) (dst := dst) (ty := ty) (pos := pos) (after := after) (gd := gd) (t := t) (t' := t') hx hy; rwa [h.hk _ hr.1 hr.2] at this
theorem PV.convB {s t : TypeId} {ks kt : IntKind} {j : Nat} [hs : IntT P s ks] [ht : IntT P t kt] [h : BW kt j] {x : Operand} {k : IntKind} {m : Int} (hx : evE e x = some (.int k m)) (hr : 0 ≤ m ∧ m < 2 ^ j) :
    PV P e l H ⟨dst, .convert s t x, ty, pos, after, gd⟩ (.int kt m) := by have := PV.convK (P := P) (l := l) (H := H) (dst := dst) (ty := ty) (pos := pos) (after := after) (gd := gd) (s := s) (t := t) hx; rwa [h.hk _ hr.1 hr.2] at this
theorem PV.indexArrG {t : TypeId} {n el sz : Nat} [h : ArrOf P t n el sz] {x y : Operand} {b o : Nat} {k : IntKind} {i : Int} (hx : evE e x = some (.pointer (some ⟨b, o, none⟩))) (hy : evE e y = some (.int k i)) (hi : 0 ≤ i ∧ i < n) :
    PV P e l H ⟨dst, .indexAddr t x y, ty, pos, after, gd⟩ (.pointer (some ⟨b, o + i.toNat * sz, none⟩)) := PV.mk fun X D a w ha hw => by
  have : (⟨b, o, none⟩ : Addr).add (i.toNat * sz) = ⟨b, o + i.toNat * sz, none⟩ := by unfold Addr.add; split <;> simp_all
  simp [execOp, ha.eval hx, ha.eval hy, Instr.indexAt, Instr.sureAddr, asIntOf, run_underlying h.h, h.s, hi, this]
end
theorem band_nat {k : IntKind} {j : Nat} [h : BW k j] {a b : Nat} (ha : a < 2 ^ j) (hb : b < 2 ^ j) : bits .and k a b = ((a &&& b : Nat) : Int) := (bits_nat k j h.hj h.hk a b ha hb).1
theorem bor_nat {k : IntKind} {j : Nat} [h : BW k j] {a b : Nat} (ha : a < 2 ^ j) (hb : b < 2 ^ j) : bits .or k a b = ((a ||| b : Nat) : Int) := (bits_nat k j h.hj h.hk a b ha hb).2
theorem bxor_nat {k : IntKind} {j : Nat} [h : BW k j] {a b : Nat} (ha : a < 2 ^ j) (hb : b < 2 ^ j) : bits .xor k a b = ((a ^^^ b : Nat) : Int) := by
  have hp : 2 ^ j ≤ 2 ^ k.bits := Nat.pow_le_pow_right zD h.hj
  have ha' : a % 2 ^ k.bits = a := Nat.mod_eq_of_lt (Nat.lt_of_lt_of_le ha hp)
  have hb' : b % 2 ^ k.bits = b := Nat.mod_eq_of_lt (Nat.lt_of_lt_of_le hb hp)
  simp only [bits, BitVec.ofInt_natCast, BitVec.toNat_xor, BitVec.toNat_ofNat, ha', hb']
  exact h.hk _ (Int.natCast_nonneg _) (by exact_mod_cast (Nat.xor_lt_two_pow ha hb))
theorem shr_nat {k : IntKind} {a n : Nat} (ha : a < 2 ^ k.bits) : shrI k a n = ((a >>> n : Nat) : Int) := by
  unfold shrI
  rw [Int.toNat_natCast, Nat.shiftRight_eq_div_pow]
  have hp : (0 : Int) ≤ (2 : Int) ^ (min n k.bits) := Int.pow_nonneg zD
  rw [Int.fdiv_eq_ediv_of_nonneg _ hp]
  by_cases h : n ≤ k.bits
  · rw [Nat.min_eq_left h]; norm_cast
  · rw [Nat.min_eq_right zO]
    have e1 : a / 2 ^ n = 0 := Nat.div_eq_of_lt (Nat.lt_of_lt_of_le ha (Nat.pow_le_pow_right zD zO))
    have e2 : a / 2 ^ k.bits = 0 := Nat.div_eq_of_lt ha
    rw [e1]
    have : ((a : Int) / (2 : Int) ^ k.bits) = ((a / 2 ^ k.bits : Nat) : Int) := by norm_cast
    rw [this, e2]
theorem shl_nat {k : IntKind} {j : Nat} [h : BW k j] {a n : Nat} (hn : n ≤ k.bits) (ha : a * 2 ^ n < 2 ^ j) : shlI k a n = ((a <<< n : Nat) : Int) := by
  unfold shlI
  rw [Int.toNat_natCast, Nat.min_eq_left hn, Nat.shiftLeft_eq]
  have : ((a : Int) * (2 : Int) ^ n) = ((a * 2 ^ n : Nat) : Int) := by norm_cast
  rw [this]
  exact h.hk _ (Int.natCast_nonneg _) (by exact_mod_cast ha)
end Go.Proofs.YtecogbhbkccblaaGreatDoor
namespace Go.Proofs.YtecogbhbkccblaaGreatDoor
open Go.RowKit

def nV (k : IntKind) (l : List Nat) : List Value := l.map fun n : Nat => Value.int k (n : Int)
theorem nV_len (k : IntKind) (l : List Nat) : (nV k l).length = l.length := by unfold nV; simp
theorem nV_one (k : IntKind) (l : List Nat) : ∀ u ∈ nV k l, u.oneCell' = true := by
  intro u hu
  obtain ⟨x, _, rfl⟩ := List.mem_map.1 hu
  rfl
theorem nV_app (k : IntKind) (l m : List Nat) : nV k (l ++ m) = nV k l ++ nV k m := List.map_append
theorem nV_get {k : IntKind} {l : List Nat} {i x : Nat} (h : l[i]? = some x) : (nV k l)[i]? = some (.int k (x : Int)) := by unfold nV; rw [List.getElem?_map, h]; rfl
theorem nV_set (k : IntKind) (l : List Nat) (i x : Nat) : (nV k l).set i (.int k (x : Int)) = nV k (l.set i x) := by unfold nV; rw [List.map_set]
theorem nV_take (k : IntKind) (l : List Nat) (i : Nat) : (nV k l).take i = nV k (l.take i) := List.map_take.symm
theorem nV_drop (k : IntKind) (l : List Nat) (i : Nat) : (nV k l).drop i = nV k (l.drop i) := List.map_drop.symm
theorem nV_rep (k : IntKind) (n : Nat) : (List.replicate n [Value.int k 0]).flatten = nV k (List.replicate n 0) := by
  unfold nV
  rw [List.map_replicate]
  induction n with
  | zero => rfl
  | succ n ih => rw [List.replicate_succ, List.replicate_succ, List.flatten_cons, ih]; rfl
abbrev NRow (t : TypeId) (k : IntKind) (v : Value) (lv : List (Nat × Obj)) (l : List Nat) : Prop := Vec t 1 v lv l.length (nV k l)
abbrev NSl (H : Hp) (k : IntKind) (v : Value) (l : List Nat) : Prop := SlR H 1 v l.length (nV k l)
theorem NSl.at {H : Hp} {k : IntKind} {ad : Option Addr} {n cap : Nat} {l : List Nat} (h : SlR H 1 (.slice ad n cap) l.length (nV k l)) {i x : Nat} (hx : l[i]? = some x) : ∃ b off, ad = some ⟨b, off, none⟩ ∧ SubC H b (off + i * 1) [.int k (x : Int)] := by
  have hi := (List.getElem?_eq_some_iff.1 hx).1
  have he : ((nV k l).drop (i * 1)).take 1 = [.int k (x : Int)] := by
    have h1 := List.getElem?_eq_some_iff.1 (nV_get (k := k) hx)
    rw [Nat.mul_one, List.drop_eq_getElem_cons h1.1, h1.2]; rfl
  obtain ⟨b, off, cap', hve, hsub⟩ := h.elem (i := i) hi he
  injection hve with e1 e2 e3
  exact ⟨b, off, e1, hsub⟩
theorem NSl.slice {H : Hp} {k : IntKind} {ad : Option Addr} {n cap : Nat} {l : List Nat} (h : SlR H 1 (.slice ad n cap) l.length (nV k l)) {lo hi : Nat} (h1 : lo ≤ hi) (h2 : hi ≤ l.length) : NSl H k (slV 1 ad lo hi cap) ((l.drop lo).take (hi - lo)) := by
  have hn : n = l.length := by
    obtain ⟨_, _, he⟩ := h.len
    injection he with e1 e2 e3
  subst hn
  have := h.slice h1 h2
  rw [Nat.mul_one, Nat.mul_one, nV_drop, nV_take] at this
  have hl : ((l.drop lo).take (hi - lo)).length = hi - lo := by rw [List.length_take, List.length_drop]; omega
  unfold NSl
  rw [hl]; exact this
theorem NSl.suf {H : Hp} {k : IntKind} {ad : Option Addr} {n cap : Nat} {l : List Nat} (h : SlR H 1 (.slice ad n cap) l.length (nV k l)) {lo : Nat} (h1 : lo ≤ l.length) : NSl H k (slV 1 ad lo l.length cap) (l.drop lo) := by
  have := NSl.slice h h1 (Nat.le_refl _)
  rwa [List.take_of_length_le (by rw [List.length_drop]; exact Nat.le_refl _)] at this
theorem NSl.nil {H : Hp} {k : IntKind} {ad : Option Addr} {cap : Nat} : NSl H k (.slice ad 0 cap) [] := SlR.empty
theorem NRow.nil (t : TypeId) (k : IntKind) : NRow t k (.slice none 0 0) [] [] := Vec.nil _ _
theorem NRow.app {t : TypeId} {k : IntKind} {v : Value} {lv : List (Nat × Obj)} {l m : List Nat} (h : Vec t 1 v lv (l.length + m.length) (nV k l ++ nV k m)) : NRow t k v lv (l ++ m) := by
  unfold NRow
  rw [List.length_append, nV_app]; exact h
theorem NRow.snoc {t : TypeId} {k : IntKind} {v : Value} {lv : List (Nat × Obj)} {l : List Nat} {x : Nat} (h : Vec t 1 v lv (l.length + 1) (nV k l ++ [.int k (x : Int)])) : NRow t k v lv (l ++ [x]) := NRow.app (m := [x]) h
theorem NRow.set {t : TypeId} {k : IntKind} {v : Value} {lv : List (Nat × Obj)} {l : List Nat} {i x : Nat} (h : Vec t 1 v lv l.length ((nV k l).set i (.int k (x : Int)))) : NRow t k v lv (l.set i x) := by
  unfold NRow
  rw [List.length_set, ← nV_set]; exact h
section
variable {P : Program} {X : Cx} {e : Env} {l : List (Nat × Obj)} {H : Hp} {D : List Deferred} {k : List It}
variable {ty : TypeId} {pos : String} {after : Array Edge} {gd : Option (Nat × Bool)} {all : Array Oper} {rest : List Oper}
/-- make, with room behind. -/
theorem T.makeSliceC {t el sz bytes d : Nat} [hs : SlOf P t el sz] [he : ElOf P el sz bytes] {z : List Value} [hzo : ZeroOf P el z] {x y : Operand} {n c : Nat}
    (hw : Wanted e all ⟨some d, .makeSlice t x y, ty, pos, after, gd⟩) (hN : Nat.blt d X.N = true) (hx : evE e x = some (.int .i64 (n : Int))) (hy : evE e y = some (.int .i64 (c : Int))) (hc : n ≤ c ∧ (c : Int) ≤ 140737488355328 ∧ (bytes : Int) * c ≤ 140737488355328)
    (h : ∀ v lv, Vec el sz v lv n (List.replicate n z).flatten → T P X ((d, v) :: e) (lv ++ l) H D (.ops all rest :: k)) :
    T P X e l H D (.ops all (⟨some d, .makeSlice t x y, ty, pos, after, gd⟩ :: rest) :: k) :=
  T.step hw rfl hN fun a w ha hw' => by
    obtain ⟨i, z1, hi, hz, hsz, hby, hzs, hpos⟩ := he.h
    obtain ⟨zv, hz2, hz3⟩ := hzo.h
    have hzz : z1 = zv := by
      have h1 := hz2 w
      simp [zeroValue, typeInfo, hi, hz] at h1
      exact h1
    subst hzz
    have hzl : z.length = i.size := by rw [hsz, ← hzs, hz3]; simp
    have hwr : IntKind.i64.wrap (n : Int) = n := wrap64_id zO
    have hwc : IntKind.i64.wrap (c : Int) = c := wrap64_id zO
    subst hsz hby
    have hb1 : ¬ (281474976710656 < (i.bytes : Int) * c) := by omega
    have hb2 : ¬ ((n : Int) < 0) := by omega
    have hb3 : ¬ ((c : Int) < 0) := by omega
    have hb4 : ¬ (c < n) := by omega
    have hcs : (if c * i.size = 0 then (#[] : Array Value) else ((Array.range (c * i.size)).map (z1.cells[· % z1.cells.size]!))) = ((List.replicate c z).flatten).toArray := by
      split
      · rename_i h0
        have : c = 0 := by
          rcases Nat.mul_eq_zero.1 h0 with h | h
          · exact h
          · omega
        subst this; rfl
      · rw [← range_rep hzl c, hz3]
        apply Array.ext'
        simp [hzl]
    have hrl : ∀ q : Nat, ((List.replicate q z).flatten).length = q * i.size := fun q => by
      rw [← range_rep hzl q]; simp
    have htk : ((List.replicate c z).flatten).take (n * i.size) = (List.replicate n z).flatten := by
      rw [show c = n + (c - n) by omega, ← List.replicate_append_replicate, List.flatten_append, ← hrl n, List.take_left]
    refine ⟨.slice (some ⟨w.heap.size, 0, none⟩) n c, [(w.heap.size, .cells ((List.replicate c z).flatten).toArray el)] ++ l, H, w.alloc (.cells ((List.replicate c z).flatten).toArray el), ?_, hw'.alloc _, h _ _ ⟨hrl n, .inr ⟨_, c, _, rfl, rfl, hc.1, by unfold maxLen; omega, hrl c, htk⟩⟩⟩
    simp [execOp, Instr.makeSlice, ha.eval hx, ha.eval hy, run_underlying hs.h, asInt, asIntOf, typeInfo, hi, hwr, hwc, hb1, hb2, hb3, hb4, sizeOf]
    by_cases h0 : c * i.size = 0
    · rw [if_pos h0] at hcs
      simp [h0, newRow, ← hcs, show Array.range 0 = #[] from rfl]
    · rw [if_neg h0] at hcs
      simp [h0, newRow, zeroValue, typeInfo, hi, hz, ← hcs]
/-- copy into a row of the walk's own. -/
theorem T.copyP {t t' el sz bytes d : Nat} [hs : SlOf P t el sz] [he : ElOf P el sz bytes] {x y : Operand} {v yv : Value} {lv r : List (Nat × Obj)} {n m : Nat} {xs ys : List Value}
    (hw : Wanted e all ⟨some d, .call ⟨.builtin .copy, #[x, y], #[t, t']⟩, ty, pos, after, gd⟩) (hN : Nat.blt d X.N = true) (hx : evE e x = some v) (hy : evE e y = some yv)
    (hv : Vec el sz v lv n xs) (hsrc : Src P l H sz yv m ys) (hm : m ≤ n) (h1 : ∀ u ∈ ys, u.oneCell' = true) (hpk : Pick l lv r)
    (h : ∀ lv', Vec el sz v lv' n (ys ++ xs.drop (m * sz)) → T P X ((d, .int .i64 (m : Int)) :: e) (lv' ++ r) H D (.ops all rest :: k)) :
    T P X e l H D (.ops all (⟨some d, .call ⟨.builtin .copy, #[x, y], #[t, t']⟩, ty, pos, after, gd⟩ :: rest) :: k) :=
  T.perm hpk.perm <| T.step hw rfl hN fun a w ha hw' => by
    obtain ⟨i, z, hi1, -, hi2, -⟩ := he.h
    have hsrc' := hsrc.perm hpk.perm
    obtain ⟨hyl, hlen, hfc⟩ := hsrc'
    have hf := hfc X w hw'
    have hmn : Nat.min m n = m := Nat.min_eq_left hm
    have hlw := hlen w
    have hdl : ∀ (ad : Option Addr) (q c : Nat), (Builtin.lenOf (.slice ad q c)).run P w = .ok q w := fun ad q c => by simp [Builtin.lenOf]
    have hxl := hv.1
    rcases hv with ⟨_, ⟨⟨ad, rfl⟩, rfl, rfl⟩ | ⟨b, cap, cs, rfl, rfl, c1, c2, c3, c4⟩⟩
    · obtain rfl : m = 0 := by omega
      have hy0 : ys = [] := List.eq_nil_of_length_eq_zero (by simpa using hyl)
      have hx0 : xs = [] := List.eq_nil_of_length_eq_zero (by simpa using hxl)
      subst hy0 hx0
      refine ⟨_, _, H, w, ?_, hw', h [] (by simpa using Vec.empty el sz ad)⟩
      cases ad with
      | none => simp [execOp, resolve, invoke, builtin, ha.eval hx, ha.eval hy, Builtin.copy_, run_underlying hs.h, hdl, hlw, sizeOf, typeInfo, hi1, hi2, hf, goInt]
      | some a1 => simp [execOp, resolve, invoke, builtin, ha.eval hx, ha.eval hy, Builtin.copy_, run_underlying hs.h, hdl, hlw, sizeOf, typeInfo, hi1, hi2, hf, goInt, storeCells]
    · have hmem : (b, Obj.cells (List.toArray cs) el (0, 0)) ∈ [(b, Obj.cells (List.toArray cs) el (0, 0))] ++ r := by simp
      have hb := (hw'.own _ hmem).1
      simp only at hb
      have hfit : m * sz ≤ cs.length := by rw [c3]; exact Nat.mul_le_mul_right _ zO
      have hst := run_storeCells_at (P := P) (w := w) (t := el) ys cs 0 0 w hb (by rw [hyl]; simpa using hfit) h1
      simp only [Nat.add_zero, Nat.zero_add, List.take_zero, List.nil_append, hyl] at hst
      refine ⟨_, _, H, w.putObj b (.cells (ys ++ cs.drop (m * sz)).toArray el (0, 0)), ?_, hw'.upd (Upd.head (l := r)), h [(b, .cells (ys ++ cs.drop (m * sz)).toArray el (0, 0))] ⟨?_, .inr ⟨b, cap, _, rfl, rfl, c1, c2, ?_, ?_⟩⟩⟩
      · simp [execOp, resolve, invoke, builtin, ha.eval hx, ha.eval hy, Builtin.copy_, run_underlying hs.h, hdl, hlw, hmn, sizeOf, typeInfo, hi1, hi2, hf, hst, goInt]
      · rw [List.length_append, hyl, List.length_drop, hxl, ← Nat.sub_mul, ← Nat.add_mul]; congr 1; omega
      · rw [List.length_append, hyl, List.length_drop, c3, ← Nat.sub_mul, ← Nat.add_mul]; congr 1; omega
      · rw [← c4, List.drop_take, ← Nat.sub_mul, List.take_append, hyl, List.take_of_length_le (by rw [hyl]; exact Nat.mul_le_mul_right _ hm), ← Nat.sub_mul]
end
end Go.Proofs.YtecogbhbkccblaaGreatDoor
namespace Go.Proofs.YtecogbhbkccblaaGreatDoor
open Go.RowKit

section
variable {α : Type} {enc : α → List Value} {sz : Nat}
theorem Splice.skipsL {pre : List Value} : ∀ {c : List Value} {o : Nat} {vs c' : List Value}, Splice c o vs c' → Splice (pre ++ c) (pre.length + o) vs (pre ++ c') := by
  induction pre with
  | nil => intro c o vs c' h; simpa using h
  | cons p pre ih =>
    intro c o vs c' h
    rw [List.cons_append, List.cons_append, List.length_cons, show pre.length + 1 + o = (pre.length + o) + 1 by omega]
    exact .skip (ih h)
theorem Splice.whole : ∀ {vs ws tl : List Value}, vs.length = ws.length → Splice (vs ++ tl) 0 ws (ws ++ tl)
  | [], [], _, _ => .nil
  | _ :: _, _ :: _, _, h => .cons (Splice.whole (by simpa using h))
/-- an element is another one -/
theorem splice_row (hf : ∀ x, (enc x).length = sz) {c : List α} {m : Nat} (x : α) (tl : List Value) (h : m < c.length) : Splice (c.flatMap enc ++ tl) (0 + ((m : Nat) : Int).toNat * sz) (enc x) ((c.set m x).flatMap enc ++ tl) := by
  have e1 : c.flatMap enc ++ tl = (c.take m).flatMap enc ++ (enc c[m] ++ ((c.drop (m + 1)).flatMap enc ++ tl)) := by
    have : c.flatMap enc = (c.take m).flatMap enc ++ (enc c[m] ++ (c.drop (m + 1)).flatMap enc) := by rw [← List.flatMap_cons, ← List.drop_eq_getElem_cons h, ← List.flatMap_append, List.take_append_drop]
    rw [this, List.append_assoc, List.append_assoc]
  have e2 : (c.set m x).flatMap enc ++ tl = (c.take m).flatMap enc ++ (enc x ++ ((c.drop (m + 1)).flatMap enc ++ tl)) := by
    rw [List.set_eq_take_append_cons_drop, if_pos h]
    simp
  have e3 : 0 + ((m : Nat) : Int).toNat * sz = ((c.take m).flatMap enc).length + 0 := by rw [flat_len hf, List.length_take, Nat.min_eq_left zO]; simp
  rw [e1, e2, e3]
  exact Splice.skipsL (Splice.whole (by rw [hf, hf]))
/-- a row, its block -/
theorem RowV.open {el : TypeId} {v : Value} {lv : List (Nat × Obj)} {l : List α} (hf : ∀ x, (enc x).length = sz) (h0 : 0 < sz) (h : RowV el enc sz v lv l) (hl : 0 < l.length) :
    ∃ b cap tl, v = .slice (some ⟨b, 0, none⟩) l.length cap ∧ lv = [(b, .cells (l.flatMap enc ++ tl).toArray el (0, 0))] ∧ ∀ l' : List α, l'.length = l.length → RowV el enc sz (.slice (some ⟨b, 0, none⟩) l.length cap) [(b, .cells (l'.flatMap enc ++ tl).toArray el (0, 0))] l' := by
  obtain ⟨b, cap, hv⟩ := h.ptr hl
  subst hv
  have hne : l.flatMap enc ≠ [] := by
    intro he
    have := congrArg List.length he
    rw [flat_len hf, List.length_nil] at this
    rcases Nat.mul_eq_zero.1 this with h1 | h1 <;> omega
  obtain ⟨_, r1, r2, tl, rfl, r3⟩ := h.row hne
  refine ⟨b, cap, tl, rfl, rfl, fun l' hl' => ?_⟩
  have e2 := flat_len hf l'
  refine ⟨e2, .inr ⟨b, cap, _, by rw [hl'], rfl, by omega, r2, ?_, ?_⟩⟩
  · rw [← r3, List.length_append, List.length_append, e2, flat_len hf, hl']
  · rw [← e2, List.take_left]
end
end Go.Proofs.YtecogbhbkccblaaGreatDoor
namespace Go

section
variable {P : Program} {b : Frame} {a : Act} {k : List Item} {cs : List Frame} {w : World}
theorem stepR_scope {c : Code} : step P (lone (b.atR a (.code (.scope c) :: k)) cs w) = .next (lone (b.atR a (.code c :: .inScope c :: k)) cs w) :=
  step_lone_go (by simp [stepG, stepG.exec, Frame.atR])
theorem stepR_inScope {c : Code} : step P (lone (b.atR a (.inScope c :: k)) cs w) = .next (lone (b.atR a k) cs w) :=
  step_lone_go (by simp [stepG, stepG.exec, Frame.atR])
end
section
variable {F : Fence} {n : Nat} {P : Program} {Q : Exit → Act → World → Prop} {a : Act} {w : World}
theorem wpIn_scope_straight {c : Code} (h : c.wpIn F n P Q a w) (hg : ∀ l a w, ¬ Q (.goto l) a w) : (Code.scope c).wpIn F n P Q a w := by
  intro b k cs hro hb hr
  have h0 : (lone (b.atR a (.code (.scope c) :: k)) cs w).fenced P F := fenced_calm hb hr rfl
  obtain ⟨e, a₁, w₁, hq, harr⟩ := h b (.inScope c :: k) cs hro hb hr
  cases e with
  | normal => exact ⟨.normal, a₁, w₁, hq, .head h0 stepR_scope (StepsIn.trans harr (.one (fenced_calm hb hr rfl) stepR_inScope))⟩
  | exit id =>
    have hx : exitTo id (.inScope c :: k) = exitTo id k := by simp [exitTo]
    exact ⟨.exit id, a₁, w₁, hq, fun k' hk => .head h0 stepR_scope (harr.1 k' (by rw [hx]; exact hk)),
      fun hr' hk => let ⟨k₁, h1, h2⟩ := harr.2 hr' (by rw [hx]; exact hk); ⟨k₁, h1, .head h0 stepR_scope h2⟩⟩
  | goto l => exact absurd hq (hg _ _ _)
  | ret => exact ⟨_, a₁, w₁, hq, .of_steps (.one h0 stepR_scope) harr⟩
  | panic ch => exact ⟨_, a₁, w₁, hq, .of_steps (.one h0 stepR_scope) harr⟩
  | outgrown => exact ⟨_, a₁, w₁, hq, .of_steps (.one h0 stepR_scope) harr⟩
end
end Go
namespace Go.Proofs.YtecogbhbkccblaaGreatDoor
open Go.RowKit
theorem wpK_goto {P : Program} {ro : Option Nat} {Q : Post} {a : Act} {w : World} {l : Nat} (hg : ¬ Q (.goto l) a w) : ∀ k : List It, ¬ wpK P ro Q k (.goto l) a w
  | [], h => hg h
  | .code _ :: k, h => wpK_goto hg k h
  | .blk _ :: k, h => wpK_goto hg k h
  | .ops _ _ :: k, h => wpK_goto hg k h
  | .done _ :: k, h => wpK_goto hg k h
section
variable {P : Program} {X : Cx} {e : Env} {l : List (Nat × Obj)} {H : Hp} {D : List Deferred} {k : List It}
theorem T.scope {c : Code} (hg : ∀ l a w, ¬ X.Q (.goto l) a w) (h : T P X e l H D (.code c :: k)) : T P X e l H D (.code (.scope c) :: k) := T.mk fun a w ha hw => by
  show (Code.scope c).wpIn _ _ _ _ _ _
  exact wpIn_scope_straight (h.get a w ha hw) fun l a w => wpK_goto (hg l a w) k
end
end Go.Proofs.YtecogbhbkccblaaGreatDoor
namespace Go.Proofs.YtecogbhbkccblaaGreatDoor
open Go.RowKit

/-- rows of the walk's own, one behind the other -/
inductive Bun (t : TypeId) (k : IntKind) : List Value → List (Nat × Obj) → List (List Nat) → Prop
  | nil : Bun t k [] [] []
  | cons {v vs lv ls x xs} : NRow t k v lv x → Bun t k vs ls xs → Bun t k (v :: vs) (lv ++ ls) (x :: xs)
/-- empty rows -/
theorem Bun.rep (t : TypeId) (k : IntKind) : ∀ n : Nat, Bun t k (List.replicate n (.slice none 0 0)) [] (List.replicate n [])
  | 0 => .nil
  | n + 1 => by
    have := Bun.cons (NRow.nil t k) (Bun.rep t k n)
    exact this
/-- one row out of a bunch, and what becomes of the bunch -/
theorem Bun.at {t : TypeId} {k : IntKind} {vs : List Value} {ls : List (Nat × Obj)} {xs : List (List Nat)} (h : Bun t k vs ls xs) : ∀ {i : Nat} {x : List Nat}, xs[i]? = some x →
    ∃ v lv r, vs[i]? = some v ∧ NRow t k v lv x ∧ Pick ls lv r ∧ ∀ v' lv' x', NRow t k v' lv' x' → ∃ ls', Bun t k (vs.set i v') ls' (xs.set i x') ∧ ls'.Perm (lv' ++ r) := by
  induction h with
  | nil => intro i x hx; simp at hx
  | @cons v vs lv ls y xs h1 h2 ih =>
    intro i x hx
    cases i with
    | zero =>
      simp at hx
      subst hx
      exact ⟨v, lv, ls, rfl, h1, .allA, fun v' lv' x' h' => ⟨lv' ++ ls, .cons h' h2, List.Perm.refl _⟩⟩
    | succ i =>
      obtain ⟨v2, lv2, r, e1, e2, e3, e4⟩ := ih (by simpa using hx)
      refine ⟨v2, lv2, lv ++ r, by simpa using e1, e2, .app e3, fun v' lv' x' h' => ?_⟩
      obtain ⟨ls', f1, f2⟩ := e4 v' lv' x' h'
      refine ⟨lv ++ ls', .cons h1 f1, ?_⟩
      have p1 : (lv ++ ls').Perm (lv ++ (lv' ++ r)) := f2.append_left lv
      refine p1.trans ?_
      rw [← List.append_assoc, ← List.append_assoc]
      exact List.perm_append_comm.append_right _
/-- frozen rows -/
inductive BunF (H : Hp) (k : IntKind) : List Value → List (List Nat) → Prop
  | nil : BunF H k [] []
  | cons {v vs x xs} : NSl H k v x → BunF H k vs xs → BunF H k (v :: vs) (x :: xs)
theorem BunF.mono {H H' : Hp} {k : IntKind} {vs : List Value} {xs : List (List Nat)} (h : BunF H k vs xs) (hl : H.le H') : BunF H' k vs xs := by
  induction h with
  | nil => exact .nil
  | cons h1 _ ih => exact .cons (h1.mono hl) ih
theorem BunF.at {H : Hp} {k : IntKind} {vs : List Value} {xs : List (List Nat)} (h : BunF H k vs xs) : ∀ {i : Nat} {x : List Nat}, xs[i]? = some x → ∃ v, vs[i]? = some v ∧ NSl H k v x := by
  induction h with
  | nil => intro i x hx; simp at hx
  | @cons v vs y xs h1 h2 ih =>
    intro i x hx
    cases i with
    | zero => simp at hx; subst hx; exact ⟨v, rfl, h1⟩
    | succ i =>
      obtain ⟨u, e1, e2⟩ := ih (i := i) (by simpa using hx)
      exact ⟨u, by simpa using e1, e2⟩
theorem BunF.len {H : Hp} {k : IntKind} {vs : List Value} {xs : List (List Nat)} (h : BunF H k vs xs) : vs.length = xs.length := by
  induction h with
  | nil => rfl
  | cons _ _ ih => simp [ih]
section
variable {P : Program} {X : Cx} {e : Env} {D : List Deferred} {k : List It}
theorem T.freezeBun {t : TypeId} {kk : IntKind} {vs : List Value} {ls : List (Nat × Obj)} {xs : List (List Nat)} (h : Bun t kk vs ls xs) : ∀ {l r : List (Nat × Obj)} {H : Hp}, l = ls ++ r → (∀ H', H.le H' → BunF H' kk vs xs → T P X e r H' D k) → T P X e l H D k := by
  induction h with
  | nil => intro l r H hl h; subst hl; exact h H (Hp.le.refl _) .nil
  | @cons v vs lv ls x xs h1 _ ih =>
    intro l r H hl h
    subst hl
    rw [List.append_assoc]
    refine T.freezeP h1 (r := ls ++ r) .allA fun H1 hl1 hs1 => ?_
    exact ih rfl fun H2 hl2 hb => h H2 (hl1.trans hl2) (.cons (hs1.mono hl2) hb)
theorem T.freezeBunP {t : TypeId} {kk : IntKind} {vs : List Value} {l ls r : List (Nat × Obj)} {xs : List (List Nat)} {H : Hp} (h : Bun t kk vs ls xs) (hpk : Pick l ls r) (hT : ∀ H', H.le H' → BunF H' kk vs xs → T P X e r H' D k) : T P X e l H D k :=
  T.perm hpk.perm (T.freezeBun h rfl hT)
end
end Go.Proofs.YtecogbhbkccblaaGreatDoor
namespace Go.Proofs.YtecogbhbkccblaaGreatDoor
open Go.RowKit

theorem flatK_list {α : Type} [Inhabited α] {enc : α → List Value} {k : Nat} (hk : ∀ x, (enc x).length = k) (d : Array α) : (Go.Sort.flatK enc k d).toList = d.toList.flatMap enc := by
  refine List.ext_getElem? fun t => ?_
  have hl : (d.toList.flatMap enc).length = d.size * k := by rw [flat_len hk]; simp
  by_cases ht : t < d.size * k
  · have k0 : 0 < k := by rcases Nat.eq_zero_or_pos k with h | h
                          · subst h; simp at ht
                          · exact h
    have hi : t / k < d.size := Nat.div_lt_of_lt_mul (by rw [Nat.mul_comm]; exact ht)
    have hm : t % k < k := Nat.mod_lt _ k0
    have h1 := Go.Sort.get_flatK enc k d t ht
    have hs : t < (Go.Sort.flatK enc k d).size := by simpa using ht
    rw [Array.getElem?_toList, Array.getElem?_eq_getElem hs, ← getElem!_pos (Go.Sort.flatK enc k d) t hs, h1]
    have hx : d.toList[t / k]? = some d[t / k]! := by rw [Array.getElem?_toList, Array.getElem?_eq_getElem hi, getElem!_pos d _ hi]
    have h2 := flat_elem hk d.toList (t / k) _ hx
    have h3 : (enc d[t / k]!)[t % k]? = (d.toList.flatMap enc)[t / k * k + t % k]? := by
      rw [← h2, List.getElem?_take, if_pos hm, List.getElem?_drop]
    have h4 : t / k * k + t % k = t := by rw [Nat.mul_comm]; exact Nat.div_add_mod t k
    rw [h4] at h3
    rw [← h3, List.getElem?_eq_getElem (by rw [hk]; exact hm), getElem!_pos (enc d[t / k]!) (t % k) (by rw [hk]; exact hm)]
  · have e1 : (Go.Sort.flatK enc k d).toList.length ≤ t := by rw [Array.length_toList, Go.Sort.size_flatK]; omega
    have e2 : (d.toList.flatMap enc).length ≤ t := by rw [hl]; omega
    rw [List.getElem?_eq_none e1, List.getElem?_eq_none e2]

theorem keep_grow {w w' : World} (h : Keep All w w') : ∃ q os', w' = Go.Sort.grow (w.drewN q) os' := by
  refine ⟨w'.drawn - w.drawn, w'.heap.extract w.heap.size w'.heap.size, ?_⟩
  have h1 := h.os
  have h2 := h.tape
  have h3 := h.output
  have h4 := h.drawn
  have hd : ∀ n (u : World), u.drewN n = { u with drawn := u.drawn + n } := by
    intro n u
    rfl
  rw [hd]
  have hh : w'.heap = w.heap ++ w'.heap.extract w.heap.size w'.heap.size := by
    refine Array.ext_getElem? fun i => ?_
    by_cases hi : i < w.heap.size
    · rw [Array.getElem?_append_left hi]; exact h.block i hi trivial
    · rw [Array.getElem?_append_right zO, Array.getElem?_extract]
      have := h.size
      by_cases hj : i < w'.heap.size
      · rw [if_pos zO]; congr 1; omega
      · rw [if_neg zO, Array.getElem?_eq_none zO]
  cases w' with
  | mk hp tp dr os out =>
    simp only at h1 h2 h3 h4 hh
    unfold Go.Sort.grow
    simp only
    rw [← hh, ← h1, ← h2, ← h3]
    congr 1
    omega

section
variable {P : Program} {α : Type} [Inhabited α] {enc : α → List Value} {k : Nat}
theorem holdsK_of {w : World} {b el : Nat} {d : List α} {tl : List Value} (hk : ∀ x, (enc x).length = k) (hb : w.heap[b]? = some (.cells (d.flatMap enc ++ tl).toArray el (0, 0))) : Go.Sort.HoldsK enc k w b 0 d.toArray := by
  intro j hj
  rw [Go.Sort.size_flatK] at hj
  have hf : (Go.Sort.flatK enc k d.toArray).toList = d.flatMap enc := flatK_list hk d.toArray
  have hl : (d.flatMap enc).length = d.length * k := flat_len hk d
  have hj' : j < (d.flatMap enc).length := by rw [hl]; simpa using hj
  constructor
  · have h1 : (Go.Sort.flatK enc k d.toArray)[j]! = (d.flatMap enc)[j] := by
      rw [getElem!_pos _ j (by simpa using hj)]
      rw [← Array.getElem_toList]
      simp only [hf]
    simp only [World.cell?, hb, Nat.zero_add, id]
    rw [h1]
    simp [List.getElem?_append_left hj', List.getElem?_eq_getElem hj']
  · simp [World.frozen?, hb]

theorem putRowK_heap {w : World} {b el : Nat} {d : List α} {tl : List Value} (hk : ∀ x, (enc x).length = k) (hb : w.heap[b]? = some (.cells (d.flatMap enc ++ tl).toArray el (0, 0))) (dk : Array α) (hs : dk.size = d.length) :
    (Go.Sort.putRowK enc k w b 0 dk).heap[b]? = some (.cells (dk.toList.flatMap enc ++ tl).toArray el (0, 0)) ∧ ∀ c, c ≠ b → (Go.Sort.putRowK enc k w b 0 dk).heap[c]? = w.heap[c]? := by
  unfold Go.Sort.putRowK Go.Sort.putRow Go.Sort.mapBlock
  constructor
  · simp only [Array.getElem?_modify, if_true, hb, Option.map_some, Go.Sort.onCells]
    congr 2
    refine Array.ext_getElem? fun t => ?_
    unfold Go.Sort.putCells
    have hf : (Go.Sort.flatK enc k dk).toList = dk.toList.flatMap enc := flatK_list hk dk
    have hl : (d.flatMap enc).length = d.length * k := flat_len hk d
    have hl2 : (dk.toList.flatMap enc).length = dk.size * k := by rw [flat_len hk]; simp
    rw [Array.getElem?_mapIdx, Go.Sort.size_flatK]
    by_cases ht : t < dk.size * k
    · have ht1 : t < (d.flatMap enc).length := by rw [hl, ← hs]; exact ht
      have e3 : ((d.flatMap enc ++ tl).toArray)[t]? = some ((d.flatMap enc)[t]'ht1) := by
        rw [List.getElem?_toArray, List.getElem?_append_left ht1, List.getElem?_eq_getElem ht1]
      rw [e3]
      simp only [Option.map_some, Nat.zero_le, Nat.zero_add, ht, and_self, if_true, Nat.sub_zero, id]
      rw [getElem!_pos _ t (by simpa using ht), ← Array.getElem_toList]
      simp only [hf]
      simp [List.getElem?_append_left (show t < (dk.toList.flatMap enc).length by rw [hl2]; exact ht), List.getElem?_eq_getElem (show t < (dk.toList.flatMap enc).length by rw [hl2]; exact ht)]
    · have e1 : ((d.flatMap enc ++ tl).toArray)[t]? = tl[t - dk.size * k]? := by
        rw [List.getElem?_toArray, List.getElem?_append_right (by rw [hl, ← hs]; omega), hl, ← hs]
      have e2 : ((dk.toList.flatMap enc ++ tl).toArray)[t]? = tl[t - dk.size * k]? := by
        rw [List.getElem?_toArray, List.getElem?_append_right (by rw [hl2]; omega), hl2]
      rw [e1, e2]
      cases tl[t - dk.size * k]? with
      | none => rfl
      | some v => simp [ht]
  · intro c hc
    simp only [Array.getElem?_modify]
    rw [if_neg (fun h => hc h.symm)]

theorem sortWorldK_facts {w : World} {b el m : Nat} {d : List α} {tl : List Value} (hk : ∀ x, (enc x).length = k) (hb : w.heap[b]? = some (.cells (d.flatMap enc ++ tl).toArray el (0, 0))) (dk : Array α) (hs : dk.size = d.length) (os : Array Obj) :
    let W := Go.Proofs.sortWorldK enc k w b 0 m dk os
    W.heap[b]? = some (.cells (dk.toList.flatMap enc ++ tl).toArray el (0, 0)) ∧ (∀ c, c < w.heap.size → c ≠ b → W.heap[c]? = w.heap[c]?) ∧ w.heap.size ≤ W.heap.size ∧ W.os = w.os ∧ W.tape = w.tape ∧ W.output = w.output ∧ w.drawn ≤ W.drawn := by
  have hlt : b < w.heap.size := (Array.getElem?_eq_some_iff.1 hb).1
  obtain ⟨h1, h2⟩ := putRowK_heap (w := Go.Sort.ahead w m) hk hb dk hs
  have hsz : (Go.Sort.putRowK enc k (Go.Sort.ahead w m) b 0 dk).heap.size = w.heap.size := by
    unfold Go.Sort.putRowK Go.Sort.putRow Go.Sort.mapBlock Go.Sort.ahead
    simp
  refine ⟨?_, ?_, ?_, rfl, rfl, rfl, ?_⟩
  · show ((Go.Sort.putRowK enc k (Go.Sort.ahead w m) b 0 dk).heap ++ os)[b]? = _
    rw [Array.getElem?_append_left (by rw [hsz]; exact hlt)]; exact h1
  · intro c hc hcb
    show ((Go.Sort.putRowK enc k (Go.Sort.ahead w m) b 0 dk).heap ++ os)[c]? = _
    rw [Array.getElem?_append_left (by rw [hsz]; exact hc)]; exact h2 c hcb
  · show w.heap.size ≤ ((Go.Sort.putRowK enc k (Go.Sort.ahead w m) b 0 dk).heap ++ os).size
    rw [Array.size_append, hsz]; omega
  · show w.drawn ≤ w.drawn + m
    omega

end
end Go.Proofs.YtecogbhbkccblaaGreatDoor
namespace Go.Proofs.YtecogbhbkccblaaGreatDoor
open Go.RowKit

abbrev Kvs (α : Type) := List (α × Value)
def encKv {α : Type} (enc : α → Value) (p : α × Value) : Value × Value := (enc p.1, p.2)
structure MapB {α : Type} (enc : α → Value) (es : Array MapEntry) (clock : Nat) (ks : Kvs α) : Prop where
  kv : es.toList.map (fun e => (e.key, e.val)) = ks.map (encKv enc)
  lt : ∀ x ∈ es.toList, x.born < clock
  nd : (es.toList.map (·.born)).Nodup
  kd : (ks.map (·.1)).Nodup
theorem MapB.empty {α : Type} (enc : α → Value) (clock : Nat) : MapB enc #[] clock [] := ⟨rfl, by simp, by simp, by simp⟩
theorem nodup_at {α : Type} {ks : Kvs α} (hn : (ks.map (·.1)).Nodup) {i j : Nat} {p q : α × Value} (hi : ks[i]? = some p) (hj : ks[j]? = some q) (h : p.1 = q.1) : i = j := by
  have h1 : (ks.map (·.1))[i]? = some p.1 := by simp [hi]
  have h2 : (ks.map (·.1))[j]? = some p.1 := by simp [hj, h]
  have hi' := (List.getElem?_eq_some_iff.1 h1).1
  exact (List.getElem?_inj hi' hn).1 (h1.trans h2.symm)
section
variable {α : Type} [DecidableEq α]
def lookB : Kvs α → α → Option Value
  | [], _ => none
  | p :: ks, a => if p.1 = a then some p.2 else lookB ks a
def putB (ks : Kvs α) (a : α) (v : Value) : Kvs α := if a ∈ ks.map (·.1) then ks.map fun p => if p.1 = a then (a, v) else p else ks ++ [(a, v)]
theorem lookB_none {ks : Kvs α} {a : α} : lookB ks a = none ↔ a ∉ ks.map (·.1) := by
  induction ks with
  | nil => simp [lookB]
  | cons p ks ih =>
    unfold lookB
    by_cases h : p.1 = a
    · simp [h]
    · rw [if_neg h, ih]; simp [Ne.symm h]
theorem MapB.put {enc : α → Value} {es : Array MapEntry} {clock : Nat} {ks : Kvs α} (h : MapB enc es clock ks) {a : α} {v : Value} :
    (a ∉ ks.map (·.1) → MapB enc (es.push { key := enc a, val := v, born := clock }) (clock + 1) (putB ks a v)) ∧
    ∀ j u, ks[j]? = some (a, u) → MapB enc (es.modify j fun e => { e with key := enc a, val := v }) clock (putB ks a v) := by
  refine ⟨fun hn => ?_, fun j u hj => ?_⟩
  · have e : putB ks a v = ks ++ [(a, v)] := by unfold putB; rw [if_neg hn]
    rw [e]
    refine ⟨?_, ?_, ?_, ?_⟩
    · rw [Array.toList_push, List.map_append, h.kv, List.map_append]; rfl
    · intro x hx
      rw [Array.toList_push] at hx
      rcases List.mem_append.1 hx with hx | hx
      · have := h.lt x hx; omega
      · obtain rfl := List.mem_singleton.1 hx
        exact Nat.lt_succ_self _
    · rw [Array.toList_push, List.map_append, List.nodup_append]
      refine ⟨h.nd, by simp, ?_⟩
      intro x hx y hy
      obtain ⟨z, hz, rfl⟩ := List.mem_map.1 hx
      have := h.lt z hz
      simp only [List.map_cons, List.map_nil, List.mem_singleton] at hy
      omega
    · rw [List.map_append, List.nodup_append]
      refine ⟨h.kd, by simp, ?_⟩
      intro x hx y hy
      simp only [List.map_cons, List.map_nil, List.mem_singleton] at hy
      subst hy
      exact fun e => hn (e ▸ hx)
  · have hm : a ∈ ks.map (·.1) := List.mem_map.2 ⟨_, List.mem_of_getElem? hj, rfl⟩
    have e : putB ks a v = ks.map fun p => if p.1 = a then (a, v) else p := by unfold putB; rw [if_pos hm]
    rw [e]
    have eb : (es.modify j fun e => { e with key := enc a, val := v }).toList.map (·.born) = es.toList.map (·.born) := by
      apply List.ext_getElem?
      intro i
      simp only [List.getElem?_map, Array.getElem?_toList, Array.getElem?_modify]
      by_cases hij : j = i
      · subst hij; rw [if_pos rfl]; cases es[j]? <;> rfl
      · rw [if_neg hij]
    refine ⟨?_, ?_, ?_, ?_⟩
    · apply List.ext_getElem?
      intro i
      have hkv := congrArg (fun l => l[i]?) h.kv
      simp only [List.getElem?_map, Array.getElem?_toList, Array.getElem?_modify] at hkv ⊢
      by_cases hij : j = i
      · subst hij
        rw [if_pos rfl, hj] at *
        cases he : es[j]? with
        | none => rw [he] at hkv; cases hkv
        | some x => simp [encKv]
      · rw [if_neg hij, hkv]
        cases hi : ks[i]? with
        | none => rfl
        | some p =>
          have : p.1 ≠ a := fun hp => hij (nodup_at h.kd hj hi hp.symm)
          simp [this]
    · intro x hx
      have : x.born ∈ (es.modify j fun e => { e with key := enc a, val := v }).toList.map (·.born) := List.mem_map.2 ⟨x, hx, rfl⟩
      rw [eb] at this
      obtain ⟨y, hy, e⟩ := List.mem_map.1 this
      have := h.lt y hy
      omega
    · rw [eb]; exact h.nd
    · have : (ks.map fun p => if p.1 = a then (a, v) else p).map (·.1) = ks.map (·.1) := by
        rw [List.map_map]
        apply List.map_congr_left
        intro p hp
        by_cases hq : p.1 = a
        · simp [hq]
        · simp [hq]
      rw [this]; exact h.kd
end
section
variable {α : Type} [DecidableEq α]
def addK (l : List α) (a : α) : List α := if a ∈ l then l else l ++ [a]
end
/-! ### operations -/
section
variable {P : Program} {X : Cx} {e : Env} {l : List (Nat × Obj)} {H : Hp} {D : List Deferred} {k : List It} {all : Array Oper} {rest : List Oper} {dst : Option Tmp} {ty : TypeId} {pos : String} {after : Array Edge} {gd : Option (Nat × Bool)}
variable {α : Type} [DecidableEq α]
theorem upd_mid {b : Nat} {o o' : Obj} {bl : List (Nat × Obj)} : ∀ al : List (Nat × Obj), Upd (al ++ (b, o) :: bl) b o o' (al ++ (b, o') :: bl)
  | [] => .head
  | _ :: al => .tail (upd_mid al)
theorem T.mkMap {t : TypeId} {d : Nat} (hw : Wanted e all ⟨some d, .makeMap t none, ty, pos, after, gd⟩) (hN : Nat.blt d X.N = true)
    (h : ∀ b, T P X ((d, .map (some b)) :: e) ((b, .map #[] 0) :: l) H D (.ops all rest :: k)) :
    T P X e l H D (.ops all (⟨some d, .makeMap t none, ty, pos, after, gd⟩ :: rest) :: k) :=
  T.step hw rfl hN fun a w ha hw' => by
    refine ⟨_, _, _, w.alloc (.map #[] 0), ?_, hw'.alloc _, h w.heap.size⟩
    simp [execOp, Instr.makeMap]
end
section
variable {P : Program} {X : Cx} {e : Env} {l : List (Nat × Obj)} {H : Hp} {D : List Deferred} {k : List It} {all : Array Oper} {rest : List Oper} {dst : Option Tmp} {ty : TypeId} {pos : String} {after : Array Edge} {gd : Option (Nat × Bool)}
variable {α : Type}
theorem PV.lenMap {t kt vt : TypeId} (hm : P.underlying t = some (.map kt vt)) {x : Operand} {b : Nat} {es : Array MapEntry} {clock : Nat} {ks : Kvs α} {enc : α → Value} (hx : evE e x = some (.map (some b))) (hs : MapB enc es clock ks) (hl : SomeObj l H b (.map es clock)) :
    PV P e l H ⟨dst, .call ⟨.builtin .len, #[x], #[t]⟩, ty, pos, after, gd⟩ (.int .i64 (ks.length : Int)) := PV.mk fun X D ac w ha hw' => by
  have hb : w.heap[b]? = some (.map es clock) := hl.heap hw'
  have hlen : es.size = ks.length := by have := congrArg List.length hs.kv; simpa using this
  simp [execOp, resolve, invoke, builtin, ha.eval hx, Builtin.len_, run_underlying hm, MapKept.run_getObj_map hb, Result.andThen, goInt, hlen]
/-! ### rounds -/
/-- A round over a map stands here: what has not come yet. -/
structure Rnd (enc : α → Value) (es : Array MapEntry) (clock since c0 : Nat) (seen : Array Nat) (left : Kvs α) : Prop where
  old : ∀ x ∈ es.toList, x.born < since
  sc : since ≤ c0
  ck : since ≤ clock
  nd : (es.toList.map (·.born)).Nodup
  kv : (leftOf es seen).toList.map (fun e => (e.key, e.val)) = left.map (encKv enc)
/-- The entry that came last. -/
structure Cur (enc : α → Value) (es : Array MapEntry) (seen : Array Nat) (a : α) (v : Value) : Prop where
  h : ∃ x ∈ es.toList, seen.back? = some x.born ∧ x.key = enc a ∧ x.val = v
theorem leftOf_push {es : Array MapEntry} (hn : (es.toList.map (·.born)).Nodup) {seen : Array Nat} {x : MapEntry} (hx : x ∈ (leftOf es seen).toList) :
    ∃ l1 l2, (leftOf es seen).toList = l1 ++ x :: l2 ∧ (leftOf es (seen.push x.born)).toList = l1 ++ l2 := by
  obtain ⟨l1, l2, e⟩ := List.append_of_mem hx
  refine ⟨l1, l2, e, ?_⟩
  have h1 : (leftOf es (seen.push x.born)).toList = (leftOf es seen).toList.filter fun y => decide (y.born ≠ x.born) := by
    unfold leftOf
    rw [Array.toList_filter, Array.toList_filter, List.filter_filter]
    apply List.filter_congr
    intro y hy
    by_cases h2 : y.born = x.born
    · simp [h2]
    · simp [h2]
  have hs : ((leftOf es seen).toList.map (·.born)).Nodup := by
    unfold leftOf
    rw [Array.toList_filter]
    exact List.Nodup.sublist (List.Sublist.map _ List.filter_sublist) hn
  rw [h1, e]
  rw [e, List.map_append, List.map_cons, List.nodup_append, List.nodup_cons] at hs
  obtain ⟨s1, ⟨s2, s3⟩, s4⟩ := hs
  rw [List.filter_append, List.filter_cons_of_neg (by simp)]
  congr 1
  · rw [List.filter_eq_self]
    intro y hy
    have := s4 y.born (List.mem_map.2 ⟨y, hy, rfl⟩) x.born (List.mem_cons_self)
    simpa using this
  · rw [List.filter_eq_self]
    intro y hy
    have : y.born ≠ x.born := fun h => s2 (h ▸ List.mem_map.2 ⟨y, hy, rfl⟩)
    simpa using this
theorem T.rangeMap {t kt vt : TypeId} {enc : α → Value} (hm : P.underlying t = some (.map kt vt)) {x : Operand} {b d : Nat} {es : Array MapEntry} {clock : Nat} {ks : Kvs α}
    (hw : Wanted e all ⟨some d, .range t x, ty, pos, after, gd⟩) (hN : Nat.blt d X.N = true) (hx : evE e x = some (.map (some b))) (hs : MapB enc es clock ks) (hl : SomeObj l H b (.map es clock))
    (h : ∀ r, Rnd enc es clock clock clock #[] ks → T P X ((d, .pointer (some ⟨r, 0, none⟩)) :: e) ((r, .mapIter (some b) clock #[] clock) :: l) H D (.ops all rest :: k)) :
    T P X e l H D (.ops all (⟨some d, .range t x, ty, pos, after, gd⟩ :: rest) :: k) :=
  T.step hw rfl hN fun a w ha hw' => by
    have hb : w.heap[b]? = some (.map es clock) := hl.heap hw'
    refine ⟨_, _, _, w.alloc (.mapIter (some b) clock #[] clock), ?_, hw'.alloc _, h w.heap.size ⟨hs.lt, Nat.le_refl _, Nat.le_refl _, hs.nd, ?_⟩⟩
    · simp [execOp, ha.eval hx, Instr.range, run_underlying hm, MapKept.run_getObj_map hb, Result.andThen]
    · have : leftOf es #[] = es := by unfold leftOf; simp
      rw [this]; exact hs.kv
theorem T.nextMap {enc : α → Value} {x : Operand} {r b d since c0 : Nat} {seen : Array Nat} {es : Array MapEntry} {clock : Nat} {left : Kvs α}
    (hw : Wanted e all ⟨some d, .next x false, ty, pos, after, gd⟩) (hN : Nat.blt d X.N = true) (hx : evE e x = some (.pointer (some ⟨r, 0, none⟩))) (hl : SomeObj l H b (.map es clock)) (hr : Rnd enc es clock since c0 seen left)
    (al : List (Nat × Obj)) {bl : List (Nat × Obj)} (hli : l = al ++ (r, .mapIter (some b) since seen c0) :: bl)
    (hend : left = [] → T P X ((d, .tuple #[.bool false]) :: e) l H D (.ops all rest :: k))
    (h : ∀ a v left' seen', left.Perm ((a, v) :: left') → Rnd enc es clock since clock seen' left' → Cur enc es seen' a v → T P X ((d, .tuple #[.bool true, enc a, v]) :: e) (al ++ (r, .mapIter (some b) since seen' clock) :: bl) H D (.ops all rest :: k)) :
    T P X e l H D (.ops all (⟨some d, .next x false, ty, pos, after, gd⟩ :: rest) :: k) :=
  T.step hw rfl hN fun ac w ha hw' => by
    have hb : w.heap[b]? = some (.map es clock) := hl.heap hw'
    have hri : w.heap[r]? = some (.mapIter (some b) since seen c0) := (hw'.own (r, .mapIter (some b) since seen c0) (by rw [hli]; simp)).1
    have hex : ∀ v w2, (Instr.next (.pointer (some ⟨r, 0, none⟩)) false ty).run P w = .ok v w2 → (execOp ac.eval ⟨some d, .next x false, ty, pos, after, gd⟩).run P w = .ok (.value v) w2 := fun v w2 hh => by
      simp [execOp, ha.eval hx, hh]
    rcases run_next_at (P := P) w ty r b since c0 seen es clock hri hb hr.old hr.sc with ⟨g1, g2⟩ | ⟨x0, g1, w1, g2, g3⟩
    · refine ⟨_, l, H, w, hex _ _ g2, hw', hend ?_⟩
      have : (leftOf es seen).toList.length = 0 := g1
      have e1 := congrArg List.length hr.kv
      rw [List.length_map, List.length_map, this] at e1
      exact List.eq_nil_of_length_eq_zero e1.symm
    · obtain ⟨l1, l2, p1, p2⟩ := leftOf_push hr.nd g1
      have hkv := hr.kv
      rw [p1, List.map_append, List.map_cons] at hkv
      obtain ⟨q1, q2, e1, e2, e3⟩ := List.map_eq_append_iff.1 hkv.symm
      obtain ⟨p, q3, e4, e5, e6⟩ := List.map_eq_cons_iff.1 e3
      have e5' : enc p.1 = x0.key ∧ p.2 = x0.val := by simpa [encKv] using e5
      have hw1 : Wd X l H w1 := by
        rcases g2 with rfl | rfl
        · exact hw'
        · exact hw'.drew
      have hu : Wd X (al ++ (r, .mapIter (some b) since (seen.push x0.born) clock) :: bl) H (ChangeMaps.setBlock w1 r (.mapIter (some b) since (seen.push x0.born) clock)) := by
        subst hli
        exact hw1.upd (upd_mid al)
      refine ⟨_, _, H, _, hex _ _ g3, hu, ?_⟩
      rw [← e5'.1, ← e5'.2]
      have hxm : x0 ∈ es.toList := by
        have := g1
        unfold leftOf at this
        rw [Array.toList_filter] at this
        exact (List.mem_filter.1 this).1
      refine h p.1 p.2 (q1 ++ q3) _ ?_ ⟨hr.old, hr.ck, hr.ck, hr.nd, ?_⟩ ⟨x0, hxm, by simp, e5'.1.symm, e5'.2.symm⟩
      · rw [e1, e4]
        exact List.perm_middle
      · rw [p2, List.map_append, List.map_append, e2, e6]
theorem PV.entryMap {enc : α → Value} {x : Operand} {r b since : Nat} {seen : Array Nat} {es : Array MapEntry} {clock : Nat} {a : α} {v : Value}
    (hx : evE e x = some (.pointer (some ⟨r, 0, none⟩))) (hl : SomeObj l H b (.map es clock)) (hn : (es.toList.map (·.born)).Nodup) (hc : Cur enc es seen a v) (hr : (r, Obj.mapIter (some b) since seen clock) ∈ l) :
    PV P e l H ⟨dst, .entry x, ty, pos, after, gd⟩ (.tuple #[enc a, v]) := PV.mk fun X D ac w ha hw' => by
  have hb : w.heap[b]? = some (.map es clock) := hl.heap hw'
  have hri : w.heap[r]? = some (.mapIter (some b) since seen clock) := (hw'.own _ hr).1
  obtain ⟨x0, h1, h2, h3, h4⟩ := hc.h
  have hf : es.find? (·.born == x0.born) = some x0 := by rw [← Array.find?_toList]; exact find_born x0 es.toList hn h1
  simp [execOp, ha.eval hx, Instr.entry, getObj, Sem.run_bind, Sem.run, hri, hb, Result.andThen, h2, hf, h3, h4]
end
end Go.Proofs.YtecogbhbkccblaaGreatDoor
namespace Go.Proofs.YtecogbhbkccblaaGreatDoor
open Go.RowKit

abbrev enS (s : ByteArray) : Value := .string s
theorem findNow_B (s : ByteArray) : ∀ (es : List MapEntry) (ks : Kvs ByteArray) (i : Nat), es.map (fun e => (e.key, e.val)) = ks.map (encKv enS) →
    (lookB ks s = none ∧ Instr.findNow .string (.string s) es i = some none) ∨ ∃ j v, ks[j]? = some (s, v) ∧ lookB ks s = some v ∧ Instr.findNow .string (.string s) es i = some (some (i + j, v))
  | [], ks, i, h => by
    have : ks = [] := by cases ks with
      | nil => rfl
      | cons a l => simp at h
    subst this
    exact .inl ⟨rfl, rfl⟩
  | e :: es, [], i, h => by simp at h
  | e :: es, k :: ks, i, h => by
    simp only [List.map_cons, List.cons.injEq, encKv, Prod.mk.injEq] at h
    obtain ⟨⟨h1, h2⟩, h3⟩ := h
    have hq : Instr.sameNow .string (.string s) e.key = some (s == k.1) := by rw [h1]; rfl
    by_cases he : k.1 = s
    · have hb : (s == k.1) = true := (MapKept.bytes_beq s k.1).2 he.symm
      refine .inr ⟨0, k.2, by rw [← he]; rfl, ?_, ?_⟩
      · unfold lookB; rw [if_pos he]
      · unfold Instr.findNow; rw [hq, hb, h2]; rfl
    · have hb : (s == k.1) = false := by
        rw [Bool.eq_false_iff]; intro h; exact he ((MapKept.bytes_beq s k.1).1 h).symm
      have hl : lookB (k :: ks) s = lookB ks s := by
        conv => lhs; unfold lookB
        rw [if_neg he]
      rw [hl]
      have hf : Instr.findNow .string (.string s) (e :: es) i = Instr.findNow .string (.string s) es (i + 1) := by
        conv => lhs; unfold Instr.findNow
        rw [hq, hb]
      rw [hf]
      rcases findNow_B s es ks (i + 1) h3 with ⟨g1, g2⟩ | ⟨j, v, g0, g1, g2⟩
      · exact .inl ⟨g1, g2⟩
      · exact .inr ⟨j + 1, v, by simpa using g0, g1, by rw [g2, show i + 1 + j = i + (j + 1) by omega]⟩
section
variable {P : Program} {X : Cx} {e : Env} {l : List (Nat × Obj)} {H : Hp} {D : List Deferred} {k : List It} {all : Array Oper} {rest : List Oper} {dst : Option Tmp} {ty : TypeId} {pos : String} {after : Array Edge} {gd : Option (Nat × Bool)}
theorem T.putMapS {t kt vt : TypeId} (hm : P.underlying t = some (.map kt vt)) (hk : P.underlying kt = some .string) {x y z : Operand} {b : Nat} {es : Array MapEntry} {clock : Nat} {ks : Kvs ByteArray} {a : ByteArray} {v : Value}
    (hw : Wanted e all ⟨none, .mapUpdate t x y z, ty, pos, after, gd⟩) (hx : evE e x = some (.map (some b))) (hy : evE e y = some (.string a)) (hz : evE e z = some v) (hs : MapB enS es clock ks) (al : List (Nat × Obj)) {bl : List (Nat × Obj)}
    (hl : l = al ++ (b, .map es clock) :: bl)
    (h : ∀ es' clock', MapB enS es' clock' (putB ks a v) → T P X e (al ++ (b, .map es' clock') :: bl) H D (.ops all rest :: k)) :
    T P X e l H D (.ops all (⟨none, .mapUpdate t x y z, ty, pos, after, gd⟩ :: rest) :: k) :=
  T.step0 hw rfl fun ac w ha hw' => by
    subst hl
    have hb : w.heap[b]? = some (.map es clock) := (hw'.own (b, .map es clock) (by simp)).1
    have hc : (Instr.checkKey false 10000 kt (.string a)).run P w = .ok () w := MapKept.run_checkKey hk (show MapKept.IsKey .string (.string a) from trivial) false 9999
    rcases findNow_B a es.toList ks 0 hs.kv with ⟨g1, g2⟩ | ⟨j, u, g0, g1, g2⟩
    · have hf := MapKept.run_findKey (w := w) hk g2
      refine ⟨_, H, _, ?_, hw'.upd (upd_mid al (o' := .map (es.push { key := .string a, val := v, born := clock }) (clock + 1))), h _ _ (hs.put.1 (lookB_none.1 g1))⟩
      simp [execOp, ha.eval hx, ha.eval hy, ha.eval hz, Instr.mapUpdate, run_underlying hm, MapKept.run_getObj_map hb, hc, hf, MapKept.run_setObj_map _ hb, Result.andThen, World.putObj]
    · rw [Nat.zero_add] at g2
      have hf := MapKept.run_findKey (w := w) hk g2
      have hkv := congrArg (fun l => l[j]?) hs.kv
      simp only [List.getElem?_map, g0, Option.map_some] at hkv
      obtain ⟨e0, q1, q2⟩ : ∃ e0, es[j]? = some e0 ∧ e0.key = .string a := by
        rw [Array.getElem?_toList] at hkv
        cases he : es[j]? with
        | none => rw [he] at hkv; cases hkv
        | some e0 =>
          rw [he] at hkv
          simp only [Option.map_some, Option.some.injEq, encKv, Prod.mk.injEq] at hkv
          exact ⟨e0, rfl, hkv.1⟩
      have hst : (Instr.keyThatStays (.string a) (.string a)).run P w = .ok (.string a) w := by simp [Instr.keyThatStays, Instr.sameBits, (MapKept.bytes_beq a a).2 rfl]
      refine ⟨_, H, _, ?_, hw'.upd (upd_mid al (o' := .map (es.modify j fun e => { e with key := .string a, val := v }) clock)), h _ _ (hs.put.2 j u g0)⟩
      simp [execOp, ha.eval hx, ha.eval hy, ha.eval hz, Instr.mapUpdate, run_underlying hm, MapKept.run_getObj_map hb, hc, hf, q1, q2, hst, MapKept.run_setObj_map _ hb, Result.andThen, World.putObj]
theorem PV.getMapS {t kt vt : TypeId} {zv : Value} (hm : P.underlying t = some (.map kt vt)) (hk : P.underlying kt = some .string) (hzv : ∀ w, (zeroValue vt).run P w = .ok zv w) {x y : Operand} {b : Nat} {es : Array MapEntry} {clock : Nat} {ks : Kvs ByteArray} {a : ByteArray}
    (hx : evE e x = some (.map (some b))) (hy : evE e y = some (.string a)) (hs : MapB enS es clock ks) (hl : SomeObj l H b (.map es clock)) :
    PV P e l H ⟨dst, .lookup t x y false, ty, pos, after, gd⟩ ((lookB ks a).getD zv) := PV.mk fun X D ac w ha hw' => by
  have hb : w.heap[b]? = some (.map es clock) := hl.heap hw'
  have hc : ∀ em, (Instr.checkKey em 10000 kt (.string a)).run P w = .ok () w := fun em => MapKept.run_checkKey hk (show MapKept.IsKey .string (.string a) from trivial) em 9999
  rcases findNow_B a es.toList ks 0 hs.kv with ⟨g1, g2⟩ | ⟨j, u, g0, g1, g2⟩
  · have hf := MapKept.run_findKey (w := w) hk g2
    rw [g1]
    simp [execOp, ha.eval hx, ha.eval hy, Instr.lookup, run_underlying hm, MapKept.run_getObj_map hb, hc, hf, hzv, Result.andThen]
  · have hf := MapKept.run_findKey (w := w) hk g2
    rw [g1]
    simp [execOp, ha.eval hx, ha.eval hy, Instr.lookup, run_underlying hm, MapKept.run_getObj_map hb, hc, hf, Result.andThen]
end
end Go.Proofs.YtecogbhbkccblaaGreatDoor
