/- block: checking; the cost of a width; the best width.
   block: encoding.
   readers: their numbers. -/
import Derived.Test.YtecogbhbkccblaaGreatDoorGU
set_option maxRecDepth 4000
set_option maxHeartbeats 40000000
set_option linter.all false
namespace Go.Proofs.YtecogbhbkccblaaGreatDoor
open Go.RowKit


theorem shrW {x i : Nat} (hx : x < 2 ^ 63) : shrI .i64 (x : Int) (i : Int) = ((x / 2 ^ i : Nat) : Int) := by
  have := shrI64 (x := x) (i := i) hx
  rwa [Nat.shiftRight_eq_div_pow] at this
theorem PV.quoN {P : Program} {e : Env} {l : List (Nat × Obj)} {H : Hp} {dst : Option Tmp} {ty : TypeId} {pos : String} {after : Array Edge} {gd : Option (Nat × Bool)} {x y : Operand} {t t' : TypeId} {m n : Nat} (hx : evE e x = some (.int .i64 (m : Int))) (hy : evE e y = some (.int .i64 (n : Int))) (h0 : 0 < n) (hm : m < 2 ^ 62) :
    PV P e l H ⟨dst, .binOp .quo t x y t', ty, pos, after, gd⟩ (.int .i64 ((m / n : Nat) : Int)) := by
  have e1 : (m : Int).tdiv (n : Int) = ((m / n : Nat) : Int) := rfl
  have hle := Nat.div_le_self m n
  have hq : ∀ q : Nat, q ≤ m → -9223372036854775808 ≤ (q : Int) ∧ (q : Int) ≤ 9223372036854775807 := fun q h => by omega
  have := PV.quo (P := P) (l := l) (H := H) (dst := dst) (ty := ty) (pos := pos) (after := after) (gd := gd) (t := t) (t' := t') hx hy zO (by rw [e1]; exact hq _ hle)
  rwa [e1] at this
theorem szB_le {v : Nat} (h : v < 65536) : szB v ≤ 3 := by
  have : lenB v ≤ 16 := by
    unfold lenB
    split
    · omega
    · have := log2_le (k := 15) h; omega
  unfold szB
  omega
theorem blockCheck_fn (vs : List Nat) (av : Value) (H : Hp) (ha : NSl H .i64 av vs) (hl : vs.length ≤ 128) (hb : ∀ v ∈ vs, v < 65536) : Fn Tryz.prog 113 #[av] H (fun u _ => u = .int .i64 0) := by
  obtain ⟨ad, cap, rfl⟩ := ha.len
  have h0 : decide ((128 : Int) < (vs.length : Int)) = false := decide_eq_false zO
  refine Fn.of_T (vs := [.slice ad vs.length cap]) Tryz.func113 rfl rfl fun w => ?_; refine J11 ?_; refine yq6 ?_; refine J9 ?_; refine T.loopK [(9, Value.int IntKind.i64 (↑vs.length : Int)), (8, Value.slice ad vs.length cap)] zq8 (γ := Nat) (fun i => i ≤ vs.length) (fun i => [(10, .int .i64 (i : Int))]) (fun _ => []) (fun _ => H) (fun i => vs.length - i) 0 (Nat.zero_le _) ⟨rfl, trivial⟩ zq23 rfl ?_
  rintro i hi
  by_cases h : i < vs.length
  · obtain ⟨v, hv⟩ : ∃ v, vs[i]? = some v := ⟨_, List.getElem?_eq_getElem h⟩
    have hv1 := hb v (List.mem_of_getElem? hv)
    obtain ⟨b, off, rfl, hsub⟩ := NSl.at ha hv
    have hd : decide ((i : Int) < (vs.length : Int)) = true := decide_eq_true zO
    have hd1 : decide ((v : Int) < 0) = false := decide_eq_false zO
    have hd2 : decide ((2147483647 : Int) < (v : Int)) = false := decide_eq_false zO
    refine yq94 ?_; refine J11 ?_; refine yq85 ?_
    exact T.nextP (i + 1) zO zO zq8 zq23 rfl
  · have hd : decide ((i : Int) < (vs.length : Int)) = false := decide_eq_false zO
    refine yq44 ?_; refine J5 ?_
    exact T.retF (Lv.fin (RV.tmp rfl rfl) rfl)
theorem sizeOf_fn (v : Nat) (H : Hp) (hv : v < 65536) : Fn Tryz.prog 209 #[.int .i64 (v : Int)] H (fun u _ => u = .int .i64 (szB v : Int)) := by
  have hl := len64_fn v hv H
  have hlb : lenB v ≤ 16 := by
    unfold lenB
    split
    · omega
    · have := log2_le (k := 15) hv; omega
  refine Fn.of_T (vs := [.int .i64 (v : Int)]) Tryz.func209 rfl rfl fun w => ?_; refine J7 ?_; refine yq42 ?_; refine T.callV Wanted.none rfl rfl (hl) ?_; refine sv (PV.max2 rfl rfl) ?_; refine sv (PV.add rfl rfl zO) ?_
  rw [show max (lenB v : Int) 1 + 6 = ((max (lenB v) 1 + 6 : Nat) : Int) by omega]
  refine T.pv (PV.quoN (m := max (lenB v) 1 + 6) (n := 7) rfl rfl zD zO) Wanted.none rfl rfl ?_; refine J2 ?_
  exact T.retF (Lv.fin (RV.tmp rfl rfl) rfl)
structure CoG where
  i : Nat
  c : Int
  n : Int
  z : Int
theorem lastB_le {b : Nat} {l : List Nat} {i : Nat} (hb : b ≤ i) (h : ∀ k ∈ l, k < i) : lastB b l ≤ i := by
  induction l generalizing b with
  | nil => exact hb
  | cons a l ih => exact ih (b := a + 1) (h a List.mem_cons_self) fun k hk => h k (List.mem_cons_of_mem _ hk)
theorem getD_lt {vs : List Nat} {B : Nat} (hB : 0 < B) (hb : ∀ v ∈ vs, v < B) (i : Nat) : vs[i]?.getD 0 < B := by
  cases h : vs[i]? with
  | none => exact hB
  | some v => exact hb v (List.mem_of_getElem? h)
theorem costG_small {vs : List Nat} {w i : Nat} (hb : ∀ v ∈ vs, v < 65536) (hi : i ≤ 128) : costG vs w 0 (exI vs w i) ≤ 6 * i := by
  induction i with
  | zero => rw [show exI vs w 0 = [] from rfl]; exact Nat.zero_le _
  | succ i ih =>
    rw [exI_succ]
    split
    · rw [costG_snoc]
      have h1 := szB_le (show i + 1 - lastB 0 (exI vs w i) < 65536 by omega)
      have h2 := szB_le (show vs[i]?.getD 0 / 2 ^ w < 65536 from Nat.lt_of_le_of_lt (Nat.div_le_self _ _) (getD_lt zD hb i))
      have := ih zO
      omega
    · rw [List.append_nil]
      have := ih zO
      omega
theorem cost_fn (vs : List Nat) (av : Value) (w : Nat) (H : Hp) (ha : NSl H .i64 av vs) (hl : vs.length ≤ 128) (hb : ∀ v ∈ vs, v < 65536) (hw : w ≤ 31) : Fn Tryz.prog 174 #[av, .int .i64 (w : Int)] H (fun u _ => u = .int .i64 (costB vs w : Int)) := by
  obtain ⟨ad, cap, rfl⟩ := ha.len
  refine Fn.of_T (vs := [.slice ad vs.length cap, .int .i64 (w : Int)]) Tryz.func174 rfl rfl fun wd => ?_; refine J18 ?_; refine T.loopK [(12, Value.int IntKind.i64 (↑vs.length : Int)), (11, Value.slice ad vs.length cap), (0, Value.slice ad vs.length cap), (1, Value.int IntKind.i64 (↑w : Int))] zq8 (γ := CoG) (fun g => g.i ≤ vs.length ∧ g.c = (costG vs w 0 (exI vs w g.i) : Int) ∧ g.n = ((exI vs w g.i).length : Int) ∧ g.z = (lastB 0 (exI vs w g.i) : Int) - 1) (fun g => [(13, .int .i64 (g.i : Int)), (5, .int .i64 g.c), (6, .int .i64 g.n), (7, .int .i64 g.z)]) (fun _ => []) (fun _ => H) (fun g => vs.length - g.i) ⟨0, 0, 0, -1⟩ ⟨Nat.zero_le _, rfl, rfl, rfl⟩ ⟨rfl, rfl, rfl, rfl, trivial⟩ zq23 rfl ?_
  rintro ⟨i, c, n, z⟩ ⟨hi, hc, hn, hz⟩
  dsimp only at hi hc hn hz ⊢
  have hcs := costG_small (vs := vs) (w := w) (i := i) hb zO
  have hxl := exI_len vs w i
  by_cases h : i < vs.length
  · obtain ⟨v, hv⟩ : ∃ v, vs[i]? = some v := ⟨_, List.getElem?_eq_getElem h⟩
    have hv1 := hb v (List.mem_of_getElem? hv)
    obtain ⟨b, off, rfl, hsub⟩ := NSl.at ha hv
    have hd : decide ((i : Int) < (vs.length : Int)) = true := decide_eq_true zO
    have hlast : lastB 0 (exI vs w i) ≤ i := lastB_le (Nat.zero_le _) fun k hk => (exI_lt hk).1
    have hsx := exI_succ vs w i
    rw [hv, Option.getD_some] at hsx
    have hq : v / 2 ^ w < 65536 := Nat.lt_of_le_of_lt (Nat.div_le_self _ _) hv1
    have hs2 := sizeOf_fn (v / 2 ^ w) H hq
    have hs1 : Fn Tryz.prog 209 #[.int .i64 ((i : Int) - z)] H (fun u _ => u = .int .i64 (szB (i + 1 - lastB 0 (exI vs w i)) : Int)) := by
      have := sizeOf_fn (i + 1 - lastB 0 (exI vs w i)) H zO
      rw [show (i : Int) - z = ((i + 1 - lastB 0 (exI vs w i) : Nat) : Int) by omega]
      exact this
    have hz1 := szB_le (show i + 1 - lastB 0 (exI vs w i) < 65536 by omega)
    have hz2 := szB_le hq
    have hsh := shrW (x := v) (i := w) zO
    by_cases h0 : 0 < v / 2 ^ w
    · have hd0 : decide ((0 : Int) < ((v / 2 ^ w : Nat) : Int)) = true := decide_eq_true zO
      have hsh := hsh
      rw [if_pos h0] at hsx
      have hsn := costG_snoc vs w i 0 (exI vs w i)
      rw [hv, Option.getD_some] at hsn
      refine yq98 ?_; refine J7 ?_; refine yq80 ?_; refine yq59 ?_; refine J6 ?_; refine T.callV Wanted.none rfl rfl (hs1) ?_; refine sm ?_; refine T.callV Wanted.none rfl rfl (hs2) ?_; refine J11 ?_
      refine J8 ?_
      exact T.nextP ⟨i + 1, c + ((szB (i + 1 - lastB 0 (exI vs w i)) : Int) + (szB (v / 2 ^ w) : Int)), n + 1, (i : Int)⟩ ⟨by dsimp only; omega, by dsimp only; rw [hsx, hsn, hc]; omega, by dsimp only; rw [hsx, List.length_append, hn]; rfl, by dsimp only; rw [hsx, lastB_snoc]; omega⟩ zE zq8 zq23 rfl
    · have hd0 : decide ((0 : Int) < ((v / 2 ^ w : Nat) : Int)) = false := decide_eq_false zO
      have hsh := hsh
      rw [if_neg h0, List.append_nil] at hsx
      refine yq98 ?_; refine J7 ?_; refine yq80 ?_; refine yq66 ?_; refine J6 ?_
      exact T.nextP ⟨i + 1, c, n, z⟩ ⟨by dsimp only; omega, by dsimp only; rw [hsx, hc], by dsimp only; rw [hsx, hn], by dsimp only; rw [hsx, hz]⟩ zE zq8 zq23 rfl
  · have hd : decide ((i : Int) < (vs.length : Int)) = false := decide_eq_false zO
    obtain rfl : i = vs.length := by omega
    have s1 := sizeOf_fn vs.length H zO
    have s2 := sizeOf_fn w H zO
    have s3 := sizeOf_fn (exI vs w vs.length).length H zO
    have z1 := szB_le (show vs.length < 65536 by omega)
    have z2 := szB_le (show w < 65536 by omega)
    have z3 := szB_le (show (exI vs w vs.length).length < 65536 by omega)
    have hm : vs.length * w ≤ 128 * 31 := Nat.mul_le_mul hl hw
    have hm2 : ((vs.length * w : Nat) : Int) = (vs.length : Int) * (w : Int) := Int.natCast_mul _ _
    subst hn hc
    refine yq44 ?_; refine J6 ?_; refine T.callV Wanted.none rfl rfl (s1) ?_; refine J2 ?_; refine T.callV Wanted.none rfl rfl (s2) ?_; refine J2 ?_; refine T.callV Wanted.none rfl rfl (s3) ?_; refine J6 ?_
    rw [← hm2, show ((vs.length * w : Nat) : Int) + 7 = ((vs.length * w + 7 : Nat) : Int) by omega]
    refine sv (PV.quoN (m := vs.length * w + 7) (n := 8) rfl rfl zD zO) ?_
    have hq : (vs.length * w + 7) / 8 ≤ 1000 := by omega
    refine J3 ?_
    exact T.retF (Lv.fin (RV.tmp rfl rfl) rfl)
/-- the costs as they are laid -/
def costU (vs : List Nat) (i : Nat) : List Nat := tabF 32 (fun j => if j < i then costB vs j else 0)
theorem costU_len (vs : List Nat) (i : Nat) : (costU vs i).length = 32 := tabF_len _ _
theorem costU_succ (vs : List Nat) (i : Nat) : (costU vs i).set i (costB vs i) = costU vs (i + 1) := by
  unfold costU
  rw [tabF_set]
  refine tabF_congr fun j hj => ?_
  by_cases h : j = i
  · subst h; rw [if_pos rfl, if_pos zO]
  · rw [if_neg h]
    by_cases h2 : j < i
    · rw [if_pos h2, if_pos zO]
    · rw [if_neg h2, if_neg zO]
theorem costU_get {vs : List Nat} {i j : Nat} (hj : j < 32) (h : j < i) : (costU vs i)[j]? = some (costB vs j) := by
  unfold costU
  rw [tabF_get _ hj, if_pos h]
instance : ArrOf Tryz.prog 246 32 3 1 := ⟨Tryz.underlying246, fun _ => by kernel_rfl⟩
theorem best_fn (vs : List Nat) (av : Value) (H : Hp) (ha : NSl H .i64 av vs) (hl : vs.length ≤ 128) (hb : ∀ v ∈ vs, v < 65536) : Fn Tryz.prog 115 #[av] H (fun u _ => u = .int .i64 (bestB vs 32 : Int)) := by
  refine Fn.of_T (vs := [av]) Tryz.func115 rfl rfl fun wd => ?_; refine J6 ?_; refine sy fun b3 => ?_; refine J11 ?_; refine T.ownEq (l' := [(b3, .cells (nV .i64 (costU vs 0)).toArray 246 (0, 0))]) rfl ?_; refine T.loopK [(3, Value.pointer (some { block := b3, off := 0 })), (0, av)] zq8 (γ := Nat) (fun i => i ≤ 32) (fun i => [(6, .int .i64 (i : Int)), (4, .int .i64 (bestB vs i : Int))]) (fun i => [(b3, .cells (nV .i64 (costU vs i)).toArray 246 (0, 0))]) (fun _ => H) (fun i => 32 - i) 0 (Nat.zero_le _) ⟨rfl, rfl, trivial⟩ zq23 rfl ?_
  rintro i hi
  by_cases h : i < 32
  · have hd : decide ((i : Int) < 32) = true := decide_eq_true zO
    have hc := cost_fn vs av i H ha hl hb zO
    have hsp : Splice (nV .i64 (costU vs i)) (0 + (i : Int).toNat * 1) [.int .i64 (costB vs i : Int)] (nV .i64 (costU vs (i + 1))) := by
      have := splice1 [] (.int .i64 (costB vs i : Int)) (nV .i64 (costU vs i)) i (by rw [nV_len, costU_len]; exact h)
      rw [nV_set, costU_succ] at this
      rw [Nat.zero_add, Nat.mul_one]
      exact this
    have hble : bestB vs i < i + 1 := by
      cases i with
      | zero => exact Nat.lt_succ_self 0
      | succ j => have := bestB_le vs j; omega
    have g1 : (nV .i64 (costU vs (i + 1)))[0 + (i : Int).toNat * 1]? = some (.int .i64 (costB vs i : Int)) := by
      rw [Nat.zero_add, Nat.mul_one]
      exact nV_get (costU_get h zO)
    have g2 : (nV .i64 (costU vs (i + 1)))[0 + (bestB vs i : Int).toNat * 1]? = some (.int .i64 (costB vs (bestB vs i) : Int)) := by
      rw [Nat.zero_add, Nat.mul_one]
      exact nV_get (costU_get zO zO)
    by_cases hlt : costB vs i < costB vs (bestB vs i)
    · have hd2 : decide ((costB vs i : Int) < (costB vs (bestB vs i) : Int)) = true := decide_eq_true zO
      have hst : bestB vs (i + 1) = i := by rw [bestB, if_pos hlt]
      refine yq31 ?_; refine J13 ?_; refine T.callV Wanted.none rfl rfl (hc) ?_; refine sv (PV.indexArrG rfl rfl zO) ?_; refine T.store1 Wanted.none rfl rfl rfl .head hsp ?_; refine yq119 ?_; refine I2 ?_; refine yq79 ?_; refine yq79 ?_; refine yq9 ?_; refine J9 ?_
      exact T.nextP (i + 1) zO zO ⟨rfl, by rw [hst]; rfl, by repeat (first | exact trivial | refine And.intro rfl ?_)⟩ zq23 rfl
    · have hd2 : decide ((costB vs i : Int) < (costB vs (bestB vs i) : Int)) = false := decide_eq_false zO
      have hst : bestB vs (i + 1) = bestB vs i := by rw [bestB, if_neg hlt]
      refine yq31 ?_; refine J13 ?_; refine T.callV Wanted.none rfl rfl (hc) ?_; refine sv (PV.indexArrG rfl rfl zO) ?_; refine T.store1 Wanted.none rfl rfl rfl .head hsp ?_; refine yq119 ?_; refine I2 ?_; refine yq79 ?_; refine yq79 ?_; refine yq85 ?_
      exact T.nextP (i + 1) zO zO ⟨rfl, by rw [hst]; rfl, by repeat (first | exact trivial | refine And.intro rfl ?_)⟩ zq23 rfl
  · have hd : decide ((i : Int) < 32) = false := decide_eq_false zO
    obtain rfl : i = 32 := by omega
    refine J12 ?_
    exact T.retF (Lv.fin (RV.tmp rfl rfl) rfl)

end Go.Proofs.YtecogbhbkccblaaGreatDoor
namespace Go.Proofs.YtecogbhbkccblaaGreatDoor
open Go.RowKit


theorem Vec.srcP {P : Program} {H : Hp} {el sz : Nat} {v : Value} {l lv r : List (Nat × Obj)} {n : Nat} {xs : List Value} (hv : Vec el sz v lv n xs) (hpk : Pick l lv r) : Src P l H sz v n xs :=
  Src.perm hpk.perm.symm (Vec.src (P := P) [] (bl := r) hv)
theorem and_low {v w p : Nat} (hp : p = 2 ^ w) (hw : w ≤ 31) (hv : v < 2 ^ 64) : bits .and .u64 (v : Int) ((p : Int) - 1) = ((v % 2 ^ w : Nat) : Int) := by
  have h1 : 1 ≤ p := by rw [hp]; exact Nat.two_pow_pos w
  have h2 : p ≤ 2 ^ 31 := by rw [hp]; exact Nat.pow_le_pow_right zD hw
  rw [show (p : Int) - 1 = ((p - 1 : Nat) : Int) by omega, andU64 v (p - 1) hv zO, hp, and_mask]
theorem shl_one {w p : Nat} (hp : p = 2 ^ w) (hw : w ≤ 31) : shlI .u64 1 (w : Int) = (p : Int) := by
  have h2 : 2 ^ w ≤ 2 ^ 31 := Nat.pow_le_pow_right zD hw
  have := shl_nat (k := .u64) (a := 1) (n := w) (by have : IntKind.u64.bits = 64 := rfl; omega) zO
  rw [Nat.shiftLeft_eq, Nat.one_mul] at this
  rw [hp]; exact this
theorem lowBits_snoc {vs : List Nat} {w i v : Nat} (h : vs[i]? = some v) : lowBits (vs.take (i + 1)) w = lowBits (vs.take i) w ++ bitsOf (v % 2 ^ w) w := by
  rw [List.take_add_one, h]
  unfold lowBits
  rw [List.flatMap_append]
  simp
theorem gapB_len {vs : List Nat} {w i : Nat} (hb : ∀ v ∈ vs, v < 65536) (hi : i ≤ 128) : (gapB vs w 0 (exI vs w i)).length ≤ 6 * i := by
  induction i with
  | zero => rw [show exI vs w 0 = [] from rfl]; exact Nat.zero_le _
  | succ i ih =>
    rw [exI_succ]
    split
    · rw [gapB_snoc, List.length_append, List.length_append]
      have h1 := putV_len 2 (show i + 1 - lastB 0 (exI vs w i) < 128 ^ 3 by omega)
      have h2 := putV_len 2 (show vs[i]?.getD 0 / 2 ^ w < 128 ^ 3 from Nat.lt_of_le_of_lt (Nat.div_le_self _ _) (Nat.lt_trans (getD_lt zD hb i) zD))
      have := ih zO
      omega
    · rw [List.append_nil]
      have := ih zO
      omega
structure EnG where
  i : Nat
  n : Int
  z : Int
  v : Value
  wl : List (Nat × Obj)
  le : List (Nat × Obj)
theorem encode_fn (vs : List Nat) (av : Value) (w : Nat) (H : Hp) (ha : NSl H .i64 av vs) (hl : vs.length ≤ 128) (hb : ∀ v ∈ vs, v < 65536) (hw : w ≤ 31) : Fn Tryz.prog 114 #[av, .int .i64 (w : Int)] H (fun u H' => NSl H' .u8 u (encB vs w)) := by
  obtain ⟨ad, cap, rfl⟩ := ha.len
  refine Fn.of_T (vs := [.slice ad vs.length cap, .int .i64 (w : Int)]) Tryz.func114 rfl rfl fun wd => ?_
  have hnw := newWriter_fn H
  refine J6 ?_; (refine T.callW Wanted.none rfl rfl hnw Pick.nil ?_; rintro _ H13 wl _ ⟨hH13, wb, rfl, hwr⟩; have hH13 := hH13.symm; subst hH13); refine J19 ?_; refine T.loopK [(15, Value.int IntKind.i64 (↑vs.length : Int)), (14, Value.slice ad vs.length cap), (5, Value.pointer (some { block := wb, off := 0 })), (0, Value.slice ad vs.length cap), (1, Value.int IntKind.i64 (↑w : Int))] zq8 (γ := EnG) (fun g => g.i ≤ vs.length ∧ g.n = ((exI vs w g.i).length : Int) ∧ g.z = (lastB 0 (exI vs w g.i) : Int) - 1 ∧ WrOk wb g.wl (lowBits (vs.take g.i) w) ∧ NRow 5 .u8 g.v g.le (gapB vs w 0 (exI vs w g.i))) (fun g => [(16, .int .i64 (g.i : Int)), (7, .int .i64 g.n), (8, .int .i64 g.z), (6, g.v)]) (fun g => g.wl ++ g.le) (fun _ => H) (fun g => vs.length - g.i) ⟨0, 0, -1, .slice none 0 0, wl, []⟩ ⟨Nat.zero_le _, rfl, rfl, hwr, NRow.nil _ _⟩ zq8 zq23 rfl ?_
  rintro ⟨i, n, z, ve, wl, le⟩ ⟨hi, hn, hz, hwr, hve⟩
  dsimp only at hi hn hz hwr hve ⊢
  obtain ⟨ae, ce, rfl⟩ := hve.val
  have hgl := gapB_len (vs := vs) (w := w) (i := i) hb zO
  have hll := lowBits_len (vs.take i) w
  rw [List.length_take, Nat.min_eq_left hi] at hll
  have hlm : i * w ≤ 128 * 31 := Nat.mul_le_mul zO hw
  have hxl := exI_len vs w i
  by_cases h : i < vs.length
  · obtain ⟨v, hv⟩ : ∃ v, vs[i]? = some v := ⟨_, List.getElem?_eq_getElem h⟩
    have hv1 := hb v (List.mem_of_getElem? hv)
    obtain ⟨b, off, rfl, hsub⟩ := NSl.at ha hv
    obtain ⟨p, hp⟩ : ∃ p, p = 2 ^ w := ⟨_, rfl⟩
    have hp1 : 1 ≤ p := by rw [hp]; exact Nat.two_pow_pos w
    have hp2 : p ≤ 2 ^ 31 := by rw [hp]; exact Nat.pow_le_pow_right zD hw
    have hlast : lastB 0 (exI vs w i) ≤ i := lastB_le (Nat.zero_le _) fun k hk => (exI_lt hk).1
    have hsx := exI_succ vs w i
    rw [hv, Option.getD_some] at hsx
    have hsn := gapB_snoc vs w i 0 (exI vs w i)
    rw [hv, Option.getD_some] at hsn
    have hq : v / 2 ^ w < 65536 := Nat.lt_of_le_of_lt (Nat.div_le_self _ _) hv1
    have hm : v % 2 ^ w < 65536 := Nat.lt_of_le_of_lt (Nat.mod_le _ _) hv1
    have hbits := wbits_fn wb wl _ (v % 2 ^ w) w H hwr hm (Nat.mod_lt _ (Nat.two_pow_pos w)) zO zO
    rw [← lowBits_snoc hv] at hbits
    have hput : FnW Tryz.prog 36 #[.slice ae (gapB vs w 0 (exI vs w i)).length ce, .int .u64 ((i : Int) - z)] H le (fun u H' l' => H' = H ∧ NRow 5 .u8 u l' (gapB vs w 0 (exI vs w i) ++ putV (i + 1 - lastB 0 (exI vs w i)))) := by
      have := putUvarint_fn _ le _ (i + 1 - lastB 0 (exI vs w i)) H hve zO zO
      rw [show (i : Int) - z = ((i + 1 - lastB 0 (exI vs w i) : Nat) : Int) by omega]
      exact this
    have hplen := putV_len 2 (show i + 1 - lastB 0 (exI vs w i) < 128 ^ 3 by omega)
    have hd : decide ((i : Int) < (vs.length : Int)) = true := decide_eq_true zO
    have hsl := shl_one hp hw
    have hand := and_low (v := v) hp hw zO
    have hsh := shrW (x := v) (i := w) zO
    by_cases h0 : 0 < v / 2 ^ w
    · have hd0 : decide ((0 : Int) < ((v / 2 ^ w : Nat) : Int)) = true := decide_eq_true zO
      rw [if_pos h0] at hsx
      have hsl := hsl
      have hand := hand
      have hsh := hsh
      refine yq98 ?_; refine J7 ?_; refine yq42 ?_; refine sm ?_; refine yq105 ?_; refine sv (PV.subB rfl rfl zO) ?_; refine yq109 ?_; refine sm ?_; (refine T.callW Wanted.none rfl rfl hbits zq1 ?_; rintro _ H29 wl2 _ ⟨rfl, hH29, hwr2⟩; have hH29 := hH29.symm; subst hH29); refine J5 ?_; refine yq80 ?_; refine yq59 ?_; refine J6 ?_; refine yq42 ?_
      (refine T.callW Wanted.none rfl rfl hput zq1 ?_; rintro v40 H40 le40 _ ⟨hH40, he40⟩; have hH40 := hH40.symm; subst hH40; obtain ⟨ad40, cap40, rfl⟩ := he40.val); refine J6 ?_; refine yq42 ?_; (refine T.callW Wanted.none rfl rfl (putUvarint_fn _ le40 _ (v / 2 ^ w) _ he40 zO (by rw [List.length_append]; omega)) zq1 ?_; rintro v44 H44 le44 _ ⟨hH44, he44⟩; have hH44 := hH44.symm; subst hH44; obtain ⟨ad44, cap44, rfl⟩ := he44.val); refine J17 ?_
      exact T.nextP ⟨i + 1, n + 1, (i : Int), .slice ad44 (gapB vs w 0 (exI vs w i) ++ putV (i + 1 - lastB 0 (exI vs w i)) ++ putV (v / 2 ^ w)).length cap44, wl2, le44⟩ ⟨by dsimp only; omega, by dsimp only; rw [hsx, List.length_append, hn]; rfl, by dsimp only; rw [hsx, lastB_snoc]; omega, hwr2, by dsimp only; rw [hsx, hsn, ← List.append_assoc]; exact he44⟩ zE zq8 zq23 rfl
    · have hd0 : decide ((0 : Int) < ((v / 2 ^ w : Nat) : Int)) = false := decide_eq_false zO
      rw [if_neg h0, List.append_nil] at hsx
      have hsl := hsl
      have hand := hand
      have hsh := hsh
      refine yq98 ?_; refine J7 ?_; refine yq42 ?_; refine sm ?_; refine yq105 ?_; refine sv (PV.subB rfl rfl zO) ?_; refine yq109 ?_; refine sm ?_; (refine T.callW Wanted.none rfl rfl hbits zq1 ?_; rintro _ H29 wl2 _ ⟨rfl, hH29, hwr2⟩; have hH29 := hH29.symm; subst hH29); refine J5 ?_; refine yq80 ?_; refine yq66 ?_; refine J6 ?_
      exact T.nextP ⟨i + 1, n, z, .slice ae (gapB vs w 0 (exI vs w i)).length ce, wl2, le⟩ ⟨by dsimp only; omega, by dsimp only; rw [hsx, hn], by dsimp only; rw [hsx, hz], hwr2, by dsimp only; rw [hsx]; exact hve⟩ zE zq8 zq23 rfl
  · have hd : decide ((i : Int) < (vs.length : Int)) = false := decide_eq_false zO
    obtain rfl : i = vs.length := by omega
    rw [List.take_length] at hwr hll
    subst hn
    have hp1 := putV_len 2 (show vs.length < 128 ^ 3 by omega)
    have hp2 := putV_len 2 (show w < 128 ^ 3 by omega)
    have hp3 := putV_len 2 (show (exI vs w vs.length).length < 128 ^ 3 by omega)
    have hpk := packB_len (lowBits vs w)
    have hA : ([] ++ putV vs.length).length = (putV vs.length).length := rfl
    have hB : ([] ++ putV vs.length ++ putV w).length = (putV vs.length).length + (putV w).length := by rw [List.length_append, List.nil_append]
    have hC : ([] ++ putV vs.length ++ putV w ++ putV (exI vs w vs.length).length).length = (putV vs.length).length + (putV w).length + (putV (exI vs w vs.length).length).length := by rw [List.length_append, List.length_append, List.nil_append]
    have hD : ([] ++ putV vs.length ++ putV w ++ putV (exI vs w vs.length).length ++ packB (lowBits vs w)).length = (putV vs.length).length + (putV w).length + (putV (exI vs w vs.length).length).length + (packB (lowBits vs w)).length := by rw [List.length_append, hC]
    refine yq44 ?_; refine J5 ?_; refine yq42 ?_; (refine T.callW Wanted.none rfl rfl (putUvarint_fn (.slice none 0 0) [] [] vs.length _ (NRow.nil _ _) zO zD) Pick.nil ?_; rintro v52 H52 le52 _ ⟨hH52, he52⟩; have hH52 := hH52.symm; subst hH52; obtain ⟨ad52, cap52, rfl⟩ := he52.val); refine J6 ?_; refine yq42 ?_; (refine T.callW Wanted.none rfl rfl (putUvarint_fn _ le52 _ w _ he52 zO zO) zq1 ?_; rintro v56 H56 le56 _ ⟨hH56, he56⟩; have hH56 := hH56.symm; subst hH56; obtain ⟨ad56, cap56, rfl⟩ := he56.val); refine J6 ?_; refine yq42 ?_; (refine T.callW Wanted.none rfl rfl (putUvarint_fn _ le56 _ (exI vs w vs.length).length _ he56 zO zO) zq1 ?_; rintro v60 H60 le60 _ ⟨hH60, he60⟩; have hH60 := hH60.symm; subst hH60; obtain ⟨ad60, cap60, rfl⟩ := he60.val); refine J6 ?_; (refine T.callW Wanted.none rfl rfl (wbytes_fn wb wl _ _ hwr zO) zq1 ?_; rintro v63 H63 _ _ ⟨hH63, lu, rfl, hu⟩; have hH63 := hH63.symm; subst hH63; obtain ⟨ad63, cap63, rfl⟩ := hu.val; rw [List.append_assoc lu wl]); (refine T.appendP (lv := le60) Wanted.none rfl rfl rfl he60 (hu.srcP zq1) (nV_one _ _) zO zq1 ?_; intro v64 lv64 hv64 _; have hv64 := NRow.app hv64; obtain ⟨ad64, cap64, rfl⟩ := hv64.val); refine sm ?_; (refine T.appendP (lv := lv64) Wanted.none rfl rfl rfl hv64 (hve.srcP zq1) (nV_one _ _) (by rw [hD]; omega) zq1 ?_; intro v66 lv66 hv66 _; have hv66 := NRow.app hv66; obtain ⟨ad66, cap66, rfl⟩ := hv66.val); refine J2 ?_; refine T.freezeP hv66 zq1 ?_
    intro H2 _ hs2
    refine T.retF (Lv.fin (RV.tmp rfl rfl) ?_)
    rw [show encB vs w = [] ++ putV vs.length ++ putV w ++ putV (exI vs w vs.length).length ++ packB (lowBits vs w) ++ gapB vs w 0 (exI vs w vs.length) by unfold encB; simp only [List.append_assoc, List.nil_append]]
    exact hs2
theorem pack_fn (vs : List Nat) (av : Value) (H : Hp) (ha : NSl H .i64 av vs) (hl : vs.length ≤ 128) (hb : ∀ v ∈ vs, v < 65536) : Fn Tryz.prog 64 #[av] H (fun u H' => ∃ v, u = .tuple #[v, .int .i64 0] ∧ NSl H' .u8 v (packV vs)) := by
  have hc := blockCheck_fn vs av H ha hl hb
  have hbe := best_fn vs av H ha hl hb
  have hw := bestB_le vs 31
  have he := encode_fn vs av (bestB vs 32) H ha hl hb zO
  obtain ⟨ad, cap, rfl⟩ := ha.len
  refine Fn.of_T (vs := [.slice ad vs.length cap]) Tryz.func64 rfl rfl fun wd => ?_; refine J9 ?_; refine T.callV Wanted.none rfl rfl (hc) ?_; refine J13 ?_; refine T.callV Wanted.none rfl rfl (hbe) ?_; (refine T.call Wanted.none rfl rfl he ?_; intro v13 H13 hle13 hv13); refine J3 ?_
  exact T.retF (Lv.fin (RV.tmp2 rfl rfl rfl) ⟨v13, rfl, hv13⟩)

end Go.Proofs.YtecogbhbkccblaaGreatDoor
namespace Go.Proofs.YtecogbhbkccblaaGreatDoor
open Go.RowKit


/-- the block of a reader -/
abbrev bNumberB (rb : Nat) (v : Value) : Nat × Obj := (rb, .cells #[v, .bool true] 202 (0, 0))
theorem bNumber_fn (rb : Nat) (v : Value) (x lim : Nat) (rest : List Nat) (H : Hp) (hv : NSl H .u8 v (putV x ++ rest)) (hx : x < 2 ^ 56) (hlim : x ≤ lim) (hl2 : lim < 2 ^ 62) (hr : rest.length ≤ 10000000) : FnW Tryz.prog 123 #[.pointer (some ⟨rb, 0, none⟩), .int .i64 (lim : Int)] H [bNumberB rb v] (fun u H' l' => u = .int .i64 (x : Int) ∧ H' = H ∧ ∃ v', l' = [bNumberB rb v'] ∧ NSl H .u8 v' rest) := by
  obtain ⟨ad, cap, rfl⟩ := hv.len
  have hu := uvarint_fn x rest _ H hv hx hr
  have hlen : (putV x ++ rest).length = (putV x).length + rest.length := List.length_append
  have hcap := SlR.cap hv
  have hd : decide ((lim : Int) < (x : Int)) = false := decide_eq_false zO
  have hs := NSl.suf hv (lo := (putV x).length) zO
  rw [List.drop_left] at hs
  refine FnW.of_T (vs := [.pointer (some ⟨rb, 0, none⟩), .int .i64 (lim : Int)]) Tryz.func123 rfl rfl fun w => ?_; refine J10 ?_; refine T.callV Wanted.none rfl rfl (hu) ?_; refine J23 ?_; refine gv (PV.convB rfl zO) ?_; refine J3 ?_; refine yq6 ?_; refine J5 ?_
  refine J4 ?_; refine sv (PV.sliceL rfl rfl zO) ?_; refine J2 ?_; refine yq1 ?_; refine J7 ?_
  exact T.retW (Lv.finW _ (List.Sublist.refl _) (RV.tmp rfl rfl) ⟨rfl, rfl, _, rfl, hs⟩)
/-- the block of a reader -/
abbrev tNumberB (rb : Nat) (v : Value) : Nat × Obj := (rb, .cells #[v, .bool true] 80 (0, 0))
theorem tNumber_fn (rb : Nat) (v : Value) (x lim : Nat) (rest : List Nat) (H : Hp) (hv : NSl H .u8 v (putV x ++ rest)) (hx : x < 2 ^ 56) (hlim : x ≤ lim) (hl2 : lim < 2 ^ 62) (hr : rest.length ≤ 10000000) : FnW Tryz.prog 69 #[.pointer (some ⟨rb, 0, none⟩), .int .i64 (lim : Int)] H [tNumberB rb v] (fun u H' l' => u = .int .i64 (x : Int) ∧ H' = H ∧ ∃ v', l' = [tNumberB rb v'] ∧ NSl H .u8 v' rest) := by
  obtain ⟨ad, cap, rfl⟩ := hv.len
  have hu := uvarint_fn x rest _ H hv hx hr
  have hlen : (putV x ++ rest).length = (putV x).length + rest.length := List.length_append
  have hcap := SlR.cap hv
  have hd : decide ((lim : Int) < (x : Int)) = false := decide_eq_false zO
  have hs := NSl.suf hv (lo := (putV x).length) zO
  rw [List.drop_left] at hs
  refine FnW.of_T (vs := [.pointer (some ⟨rb, 0, none⟩), .int .i64 (lim : Int)]) Tryz.func69 rfl rfl fun w => ?_; refine J10 ?_; refine T.callV Wanted.none rfl rfl (hu) ?_; refine J23 ?_; refine gv (PV.convB rfl zO) ?_; refine J3 ?_; refine yq6 ?_; refine J5 ?_
  refine J4 ?_; refine sv (PV.sliceL rfl rfl zO) ?_; refine J2 ?_; refine yq1 ?_; refine J7 ?_
  exact T.retW (Lv.finW _ (List.Sublist.refl _) (RV.tmp rfl rfl) ⟨rfl, rfl, _, rfl, hs⟩)
/-- the block of a reader -/
abbrev xNumberB (rb : Nat) (v : Value) : Nat × Obj := (rb, .cells #[v, .bool true] 72 (0, 0))
theorem xNumber_fn (rb : Nat) (v : Value) (x lim : Nat) (rest : List Nat) (H : Hp) (hv : NSl H .u8 v (putV x ++ rest)) (hx : x < 2 ^ 56) (hlim : x ≤ lim) (hl2 : lim < 2 ^ 62) (hr : rest.length ≤ 10000000) : FnW Tryz.prog 33 #[.pointer (some ⟨rb, 0, none⟩), .int .i64 (lim : Int)] H [xNumberB rb v] (fun u H' l' => u = .int .i64 (x : Int) ∧ H' = H ∧ ∃ v', l' = [xNumberB rb v'] ∧ NSl H .u8 v' rest) := by
  obtain ⟨ad, cap, rfl⟩ := hv.len
  have hu := uvarint_fn x rest _ H hv hx hr
  have hlen : (putV x ++ rest).length = (putV x).length + rest.length := List.length_append
  have hcap := SlR.cap hv
  have hd : decide ((lim : Int) < (x : Int)) = false := decide_eq_false zO
  have hs := NSl.suf hv (lo := (putV x).length) zO
  rw [List.drop_left] at hs
  refine FnW.of_T (vs := [.pointer (some ⟨rb, 0, none⟩), .int .i64 (lim : Int)]) Tryz.func33 rfl rfl fun w => ?_; refine J10 ?_; refine T.callV Wanted.none rfl rfl (hu) ?_; refine J23 ?_; refine gv (PV.convB rfl zO) ?_; refine J3 ?_; refine yq6 ?_; refine J5 ?_
  refine J4 ?_; refine sv (PV.sliceL rfl rfl zO) ?_; refine J2 ?_; refine yq1 ?_; refine J7 ?_
  exact T.retW (Lv.finW _ (List.Sublist.refl _) (RV.tmp rfl rfl) ⟨rfl, rfl, _, rfl, hs⟩)

end Go.Proofs.YtecogbhbkccblaaGreatDoor
