/- bits.Len64; bitio: the writer.
   bitio: the writer's numbers.
   bitio: Delta, the writer's bytes; numbers as bytes of seven bits. -/
import Derived.Test.YtecogbhbkccblaaGreatDoorGP
import Derived.Test.YtecogbhbkccblaaGreatDoorG4
import Derived.Test.YtecogbhbkccblaaGreatDoorGR
set_option maxRecDepth 4000
set_option maxHeartbeats 40000000
set_option linter.all false
namespace Go.Proofs.YtecogbhbkccblaaGreatDoor
open Go.RowKit


theorem shr64 {x i : Nat} (hx : x < 2 ^ 64) : shrI .u64 (x : Int) (i : Int) = ((x >>> i : Nat) : Int) := shr_nat (k := .u64) hx
theorem lenB_shift {x k : Nat} (h : 2 ^ k ≤ x) : lenB x = lenB (x >>> k) + k := by
  have hp : 0 < x >>> k := by rw [Nat.shiftRight_eq_div_pow]; exact Nat.div_pos h (Nat.pow_pos zD)
  have hx : x ≠ 0 := by have := Nat.two_pow_pos k; omega
  unfold lenB
  rw [if_neg hx, if_neg zO]
  have h1 : (x >>> k).log2 + k = x.log2 := by
    refine ((Nat.log2_eq_iff hx).2 ⟨?_, ?_⟩).symm
    · rw [Nat.pow_add]
      have := Nat.log2_self_le (show x >>> k ≠ 0 by omega)
      rw [Nat.shiftRight_eq_div_pow] at this ⊢
      exact (Nat.le_div_iff_mul_le (Nat.two_pow_pos k)).1 this
    · rw [show (x >>> k).log2 + k + 1 = ((x >>> k).log2 + 1) + k by omega, Nat.pow_add]
      have : x >>> k < 2 ^ ((x >>> k).log2 + 1) := Nat.lt_log2_self
      rw [Nat.shiftRight_eq_div_pow] at this ⊢
      exact (Nat.div_lt_iff_lt_mul (Nat.two_pow_pos k)).1 this
  omega
def len8 : List UInt8 := [0, 1, 2, 2] ++ (List.replicate 4 3 ++ (List.replicate 8 4 ++ (List.replicate 16 5 ++ (List.replicate 32 6 ++ (List.replicate 64 7 ++ List.replicate 128 8)))))
theorem len8_get : ∀ x : Fin 256, (len8[x.val]?).map UInt8.toNat = some (lenB x.val) := by decide +kernel
theorem len8_at {x : Nat} (h : x < 256) : ∃ c, len8[x]? = some c ∧ (c.toNat : Int) = (lenB x : Int) := by
  have := len8_get ⟨x, h⟩
  cases hc : len8[x]? with
  | none => rw [hc] at this; cases this
  | some c =>
    rw [hc] at this
    simp only [Option.map_some, Option.some.injEq] at this
    exact ⟨c, rfl, by exact_mod_cast this⟩
theorem len64_fn (x : Nat) (hx : x < 65536) (H : Hp) : Fn Tryz.prog 75 #[.int .u64 (x : Int)] H (fun u _ => u = .int .i64 (lenB x : Int)) := by
  refine Fn.of_T (vs := [.int .u64 (x : Int)]) Tryz.func75 rfl rfl fun w => ?_
  have h1 : decide ((4294967296 : Int) ≤ (x : Int)) = false := decide_eq_false zO
  have h2 : decide ((65536 : Int) ≤ (x : Int)) = false := decide_eq_false zO
  by_cases hc : 256 ≤ x
  · have h3 : decide ((256 : Int) ≤ (x : Int)) = true := decide_eq_true zO
    have h4 : shrI .u64 (x : Int) 8 = ((x / 256 : Nat) : Int) := by
      have := shr64 (x := x) (i := 8) zO
      rw [Nat.shiftRight_eq_div_pow] at this
      exact this
    obtain ⟨c, hc1, hc2⟩ := len8_at (show x / 256 < 256 by omega)
    have hl : lenB x = lenB (x / 256) + 8 := by
      have := lenB_shift (x := x) (k := 8) zO
      rwa [Nat.shiftRight_eq_div_pow] at this
    have hc3 : c.toNat < 256 := c.toNat_lt
    refine J10 ?_; refine yq6 ?_; refine yq66 ?_; refine yq59 ?_; refine J3 ?_; refine yq80 ?_; refine J11 ?_; refine yq42 ?_; refine yq106 ?_; refine J4 ?_
    exact T.retF (Lv.fin (RV.tmp rfl rfl) (by rw [hl, hc2]; congr 1; omega))
  · have h3 : decide ((256 : Int) ≤ (x : Int)) = false := decide_eq_false zO
    obtain ⟨c, hc1, hc2⟩ := len8_at (show x < 256 by omega)
    have hc3 : c.toNat < 256 := c.toNat_lt
    refine J10 ?_; refine yq6 ?_; refine yq66 ?_; refine yq66 ?_; refine J5 ?_; refine yq42 ?_; refine yq106 ?_; refine J4 ?_
    exact T.retF (Lv.fin (RV.tmp rfl rfl) (by rw [hc2]; congr 1; omega))
/-! ### the writer -/
/-- a writer: its block and the block of its bytes -/
def WrOk (wb : Nat) (l : List (Nat × Obj)) (bs : List Bool) : Prop := ∃ v lv, l = (wb, .cells #[v, .int .i64 (bs.length : Int)] 146 (0, 0)) :: lv ∧ NRow 5 .u8 v lv (packB bs)
theorem and64 (x n : Nat) (hx : x < 2 ^ 63) (hn : n < 2 ^ 63) : bits .and .i64 (x : Int) (n : Int) = ((x &&& n : Nat) : Int) := band_nat (k := .i64) hx hn
theorem andU64 (x n : Nat) (hx : x < 2 ^ 64) (hn : n < 2 ^ 64) : bits .and .u64 (x : Int) (n : Int) = ((x &&& n : Nat) : Int) := band_nat (k := .u64) hx hn
theorem shrI64 {x i : Nat} (hx : x < 2 ^ 63) : shrI .i64 (x : Int) (i : Int) = ((x >>> i : Nat) : Int) := shr_nat (k := .i64) (by have : IntKind.i64.bits = 64 := rfl; rw [this]; omega)
theorem div8 {x : Nat} (hx : x < 2 ^ 63) : shrI .i64 (x : Int) 3 = ((x / 8 : Nat) : Int) := by
  have := shrI64 (i := 3) hx
  rw [Nat.shiftRight_eq_div_pow] at this
  exact this
theorem mod8 {x : Nat} (hx : x < 2 ^ 63) : bits .and .i64 (x : Int) 7 = ((x % 8 : Nat) : Int) := by
  have := and64 x 7 hx zD
  rw [and_7] at this
  exact this
theorem put_fn (wb : Nat) (l : List (Nat × Obj)) (bs : List Bool) (x : Nat) (H : Hp) (hw : WrOk wb l bs) (hx : x < 2 ^ 64) (hl : bs.length ≤ 1000000) : FnW Tryz.prog 128 #[.pointer (some ⟨wb, 0, none⟩), .int .u64 (x : Int)] H l (fun u H' l' => u = .tuple #[] ∧ H' = H ∧ WrOk wb l' (bs ++ [decide (x % 2 = 1)])) := by
  obtain ⟨v, lv, rfl, hv⟩ := hw
  obtain ⟨ad, cap, rfl⟩ := hv.val
  have h7 := mod8 (x := bs.length) zO
  have h1 : bits .and .u64 (x : Int) 1 = ((x % 2 : Nat) : Int) := by
    have := andU64 x 1 hx zD
    rw [and_1] at this
    exact this
  refine FnW.of_T (vs := [.pointer (some ⟨wb, 0, none⟩), .int .u64 (x : Int)]) Tryz.func128 rfl rfl fun w => ?_
  have hp8 : (packB bs).length ≤ 200000 := by rw [packB_len]; omega
  refine J7 ?_; refine yq109 ?_; refine J2 ?_
  refine T.cutK (γ := Value × List (Nat × Obj)) [(0, .pointer (some ⟨wb, 0, none⟩)), (1, .int .u64 (x : Int))] (fun g => NRow 5 .u8 g.1 g.2 (packB (bs ++ [false]))) (fun _ => []) (fun g => (wb, .cells #[g.1, .int .i64 (bs.length : Int)] 146 (0, 0)) :: g.2) (fun g hg => ?_) (fun K => ?_)
  · obtain ⟨v2, lv2⟩ := g
    dsimp only at hg ⊢
    obtain ⟨ad2, cap2, rfl⟩ := hg.val
    have hlen : (packB (bs ++ [false])).length = bs.length / 8 + 1 := by rw [packB_len, List.length_append, List.length_singleton]; omega
    have hl2 : (bs ++ [decide (x % 2 = 1)]).length = bs.length + 1 := by rw [List.length_append, List.length_singleton]
    by_cases h0 : x % 2 = 1
    · have hd : decide (((x % 2 : Nat) : Int) = 1) = true := decide_eq_true zO
      obtain ⟨b, cap, hbe⟩ := hg.ptr zO
      injection hbe with e1 e2 e3
      subst e1 e3
      have h3 := div8 (x := bs.length) zO
      have hld : (nV .u8 (packB (bs ++ [false])))[0 + ((bs.length / 8 : Nat) : Int).toNat * 1]? = some (.int .u8 (byteB bs (bs.length / 8) : Int)) := by
        rw [Nat.zero_add, Nat.mul_one, Int.toNat_natCast]
        exact nV_get (packB_last bs)
      have hsh : shrI .u8 128 ((bs.length % 8 : Nat) : Int) = ((128 >>> (bs.length % 8) : Nat) : Int) := shr_nat (k := .u8) (a := 128) zD
      have hb : byteB bs (bs.length / 8) < 2 ^ 8 := byteB_lt _ _
      have hor : bits .or .u8 (byteB bs (bs.length / 8) : Int) ((128 >>> (bs.length % 8) : Nat) : Int) = ((byteB bs (bs.length / 8) ||| 128 >>> (bs.length % 8) : Nat) : Int) := bor_nat (k := .u8) hb (by
        rw [Nat.shiftRight_eq_div_pow]
        have := Nat.div_le_self 128 (2 ^ (bs.length % 8)); omega)
      refine J4 ?_; refine yq109 ?_; refine J2 ?_; refine yq9 ?_
      (repeat refine sq ?_)
      refine T.regionS ((wb, .cells #[.slice (some ⟨b, 0, none⟩) (packB (bs ++ [false])).length cap2, .int .i64 (bs.length : Int)] 146 (0, 0)) :: lv2) 19 zK ?_; refine yq93 ?_; refine TS.take 1 rfl zK zK zK zK (PV.nilCheck rfl) Wanted.none rfl rfl ?_; refine TS.take 2 rfl zK zK zK zK (PV.fieldAddr rfl) Wanted.none rfl rfl ?_; refine TS.take 3 rfl zK zK zK zK (PV.load1 rfl zq0 rfl) Wanted.none rfl rfl ?_; refine TS.take 4 rfl zK zK zK zK (PV.move rfl) Wanted.none rfl rfl ?_; refine TS.take 5 rfl zK zK zK zK (PV.nilCheck rfl) Wanted.none rfl rfl ?_; refine TS.take 6 rfl zK zK zK zK (PV.fieldAddr rfl) Wanted.none rfl rfl ?_; refine TS.take 7 rfl zK zK zK zK (PV.load1 rfl zq0 rfl) Wanted.none rfl rfl ?_; refine TS.take 8 rfl zK zK zK zK (PV.shrR rfl rfl zA zO) Wanted.none rfl rfl ?_; refine TS.take 9 rfl zK zK zK zK (PV.indexAddr rfl rfl zO) Wanted.none rfl rfl ?_; refine TS.take 10 rfl zK zK zK zK (PV.loadVec rfl zA zq4 zA) Wanted.none rfl rfl ?_; refine TS.take 11 rfl zK zK zK zK (PV.move rfl) Wanted.none rfl rfl ?_; refine TS.take 12 rfl zK zK zK zK (PV.nilCheck rfl) Wanted.none rfl rfl ?_; refine TS.take 13 rfl zK zK zK zK (PV.fieldAddr rfl) Wanted.none rfl rfl ?_; refine TS.take 14 rfl zK zK zK zK (PV.load1 rfl zq0 rfl) Wanted.none rfl rfl ?_; refine TS.take 15 rfl zK zK zK zK (PV.bandR rfl rfl zA) Wanted.none rfl rfl ?_; refine TS.take 16 rfl zK zK zK zK (PV.shrR rfl rfl zA zO) Wanted.none rfl rfl ?_; refine TS.take 17 rfl zK zK zK zK (PV.borR rfl rfl zA) Wanted.none rfl rfl ?_; refine TS.take 18 rfl zK zK zK zK (PV.indexAddr rfl rfl zO) Wanted.none rfl rfl ?_
      refine TS.ways [19] zK rfl zq20 ⟨⟨_, rfl, ?_⟩, trivial⟩
      (refine T.storeVecP (lv := lv2) Wanted.none rfl rfl rfl hg (by rw [Nat.zero_add, Nat.mul_one, Int.toNat_natCast, nV_len]; omega) zq1 ?_; intro lv3 hv3); refine yq11 ?_; refine J8 ?_; refine yq1 ?_; refine so ?_; refine T.sel (l' := (wb, .cells #[.slice (some ⟨b, 0, none⟩) (packB (bs ++ [false])).length cap2, .int .i64 ((bs.length : Int) + 1)] 146 (0, 0)) :: lv3) zq23 ?_
      refine T.fallW (Lv.finW _ (List.Sublist.refl _) (RV.none rfl) ⟨rfl, rfl, _, lv3, by rw [hl2]; exact rfl, ?_⟩)
      rw [decide_eq_true h0, packB_true]
      rw [Nat.zero_add, Nat.mul_one, Int.toNat_natCast] at hv3
      exact NRow.set hv3
    · have hd : decide (((x % 2 : Nat) : Int) = 1) = false := decide_eq_false zO
      refine J4 ?_; refine yq109 ?_; refine J2 ?_; refine yq6 ?_; refine J9 ?_; refine yq1 ?_; refine so ?_
      exact T.fallW (Lv.finW _ (List.Sublist.refl _) (RV.none rfl) ⟨rfl, rfl, _, _, by rw [hl2]; exact rfl, by rw [decide_eq_false h0]; exact hg⟩)
  · by_cases h0 : bs.length % 8 = 0
    · have hd : decide (((bs.length % 8 : Nat) : Int) = 0) = true := decide_eq_true zO
      refine yq110 ?_; (refine T.buildSlice Wanted.none rfl rfl zq11 zX zX ?_; intro b15); (refine T.appendP (lv := lv) Wanted.none rfl rfl rfl hv (Src.cells (m := 1) (ys := nV .u8 [0]) (.own zq2) rfl rfl) (nV_one _ _) zO zq1 ?_; intro v16 lv16 hv16 _; obtain ⟨ad16, cap16, rfl⟩ := hv16.val); refine J2 ?_; refine yq1 ?_; refine so ?_
      refine K (.slice ad16 ((packB bs).length + 1) cap16, lv16) _ _ ?_ zq8 zq23
      dsimp only
      rw [packB_false, if_pos h0]
      exact NRow.app hv16
    · have hd : decide (((bs.length % 8 : Nat) : Int) = 0) = false := decide_eq_false zO
      refine yq6 ?_; refine T.skip ?_
      refine K (.slice ad (packB bs).length cap, lv) _ _ ?_ zq8 zq23
      dsimp only
      rw [packB_false, if_neg h0]
      exact hv

end Go.Proofs.YtecogbhbkccblaaGreatDoor
namespace Go.Proofs.YtecogbhbkccblaaGreatDoor
open Go.RowKit


structure LwG where
  j : Nat
  i : Int
  l : List (Nat × Obj)
theorem lowest_fn (wb : Nat) (l : List (Nat × Obj)) (bs : List Bool) (v n : Nat) (H : Hp) (hw : WrOk wb l bs) (hx : v < 2 ^ 64) (hn : n ≤ 64) (hl : bs.length + n ≤ 1000000) : FnW Tryz.prog 77 #[.pointer (some ⟨wb, 0, none⟩), .int .u64 (v : Int), .int .i64 (n : Int)] H l (fun u H' l' => u = .tuple #[] ∧ H' = H ∧ WrOk wb l' (bs ++ bitsOf v n)) := by
  refine FnW.of_T (vs := [.pointer (some ⟨wb, 0, none⟩), .int .u64 (v : Int), .int .i64 (n : Int)]) Tryz.func77 rfl rfl fun w => ?_; refine J7 ?_; refine T.loopK [(0, Value.pointer (some { block := wb, off := 0 })), (1, Value.int IntKind.u64 (↑v : Int))] zq8 (γ := LwG) (fun g => g.j ≤ n ∧ g.i = (n : Int) - 1 - g.j ∧ WrOk wb g.l (bs ++ (bitsOf v n).take g.j)) (fun g => [(6, .int .i64 g.i)]) (fun g => g.l) (fun _ => H) (fun g => n - g.j) ⟨0, (n : Int) - 1, l⟩ ⟨Nat.zero_le _, by simp, by simpa using hw⟩ zq8 zq23 rfl ?_
  rintro ⟨j, i, l1⟩ ⟨g1, g2, g3⟩
  dsimp only at g1 g2 g3 ⊢
  by_cases hj : j < n
  · have hd : decide ((0 : Int) ≤ i) = true := decide_eq_true zO
    obtain ⟨k, rfl⟩ : ∃ k : Nat, i = (k : Int) := ⟨n - 1 - j, by omega⟩
    have hk : k = n - 1 - j := by omega
    have hsh := shr64 (i := k) hx
    have hp := put_fn wb l1 _ (v >>> k) H g3 (by rw [Nat.shiftRight_eq_div_pow]; exact Nat.lt_of_le_of_lt (Nat.div_le_self _ _) hx) (by rw [List.length_append, List.length_take, bitsOf_len]; omega)
    have hst : (bs ++ (bitsOf v n).take j) ++ [decide ((v >>> k) % 2 = 1)] = bs ++ (bitsOf v n).take (j + 1) := by
      rw [List.append_assoc, List.take_add_one, bitsOf_get hj, ← hk, Nat.testBit_eq_decide_div_mod_eq, Nat.shiftRight_eq_div_pow]; rfl
    rw [hst] at hp
    refine J10 ?_
    (repeat refine sq ?_)
    refine T.regionO [] zK ?_; refine yq49 ?_; refine yq35 ?_; refine yq22 ?_; refine TO.take 4 rfl zK zK zK (PV.move rfl) Wanted.none rfl rfl ?_; refine TO.take 5 rfl zK zK zK (PV.shrR rfl rfl zA zO) Wanted.none rfl rfl ?_; refine TO.step 6 rfl zK zq4 zq19 ?_; (refine T.callW Wanted.none rfl rfl hp zq1 ?_; rintro _ H9 l2 _ ⟨rfl, hH9, hw2⟩; have hH9 := hH9.symm; subst hH9); refine yq30 ?_; refine yq37 ?_; refine J6 ?_
    exact T.nextP ⟨j + 1, (k : Int) - 1, l2⟩ ⟨hj, by dsimp only; omega, hw2⟩ zE zq8 zq23 rfl
  · have hd : decide ((0 : Int) ≤ i) = false := decide_eq_false zO
    refine J6 ?_; refine yq6 ?_; refine T.exit rfl ?_
    rw [List.take_of_length_le (by rw [bitsOf_len]; omega)] at g3
    exact T.fallW (Lv.finW l1 (List.Sublist.refl _) (RV.none rfl) ⟨rfl, rfl, g3⟩)
theorem wbits_fn (wb : Nat) (l : List (Nat × Obj)) (bs : List Bool) (v n : Nat) (H : Hp) (hw : WrOk wb l bs) (hx : v < 65536) (hv : v < 2 ^ n) (hn : n ≤ 64) (hl : bs.length + n ≤ 1000000) : FnW Tryz.prog 121 #[.pointer (some ⟨wb, 0, none⟩), .int .u64 (v : Int), .int .i64 (n : Int)] H l (fun u H' l' => u = .int .i64 0 ∧ H' = H ∧ WrOk wb l' (bs ++ bitsOf v n)) := by
  have h1 : decide ((n : Int) < 0) = false := decide_eq_false zO
  have h2 : decide ((64 : Int) < (n : Int)) = false := decide_eq_false zO
  have hb : lenB v ≤ n := by
    unfold lenB
    split
    · exact Nat.zero_le _
    · rename_i h0
      exact (Nat.log2_lt h0).2 hv
  have h3 : decide ((n : Int) < (lenB v : Int)) = false := decide_eq_false zO
  have hlow := lowest_fn wb l bs v n H hw zO hn hl
  refine FnW.of_T (vs := [.pointer (some ⟨wb, 0, none⟩), .int .u64 (v : Int), .int .i64 (n : Int)]) Tryz.func121 rfl rfl fun w => ?_; refine J14 ?_; refine yq0 ?_; refine T.callV (Wanted.guard rfl rfl zA) rfl rfl (len64_fn v hx H) ?_; refine yq0 ?_; refine T.pv (PV.gtr rfl rfl) (Wanted.guard rfl rfl zA) rfl rfl ?_; refine yq90 ?_; refine so ?_; refine yq85 ?_; (refine T.callW Wanted.none rfl rfl hlow zq1 ?_; rintro _ H9 l2 _ ⟨rfl, hH9, hw2⟩; have hH9 := hH9.symm; subst hH9); refine J5 ?_
  exact T.retW (Lv.finW l2 zq4 (RV.tmp rfl rfl) ⟨rfl, rfl, hw2⟩)
theorem gamma_fn (wb : Nat) (l : List (Nat × Obj)) (bs : List Bool) (v : Nat) (H : Hp) (hw : WrOk wb l bs) (h0 : 0 < v) (hx : v < 65536) (hl : bs.length ≤ 900000) : FnW Tryz.prog 76 #[.pointer (some ⟨wb, 0, none⟩), .int .u64 (v : Int)] H l (fun u H' l' => u = .int .i64 0 ∧ H' = H ∧ WrOk wb l' (bs ++ gammaB v)) := by
  have h1 : decide ((v : Int) = 0) = false := decide_eq_false zO
  have hlb : lenB v = v.log2 + 1 := by unfold lenB; rw [if_neg zO]
  have hlog : v.log2 ≤ 15 := log2_le (k := 15) hx
  have hl1 := lowest_fn wb l bs 0 v.log2 H hw zO zO zO
  rw [show ((0 : Nat) : Int) = 0 from rfl] at hl1
  have hz : bitsOf 0 v.log2 = List.replicate v.log2 false := by
    unfold bitsOf
    simp only [Nat.zero_testBit]
    rw [List.map_const', List.length_range]
  rw [hz] at hl1
  have hl2 : ∀ l1, WrOk wb l1 (bs ++ List.replicate v.log2 false) → FnW Tryz.prog 77 #[.pointer (some ⟨wb, 0, none⟩), .int .u64 (v : Int), .int .i64 ((v.log2 : Int) + 1)] H l1 (fun u H' l' => u = .tuple #[] ∧ H' = H ∧ WrOk wb l' (bs ++ gammaB v)) := fun l1 h => by
    have := lowest_fn wb l1 _ v (v.log2 + 1) H h zO zO (by rw [List.length_append, List.length_replicate]; omega)
    rw [List.append_assoc] at this
    exact this
  refine FnW.of_T (vs := [.pointer (some ⟨wb, 0, none⟩), .int .u64 (v : Int)]) Tryz.func76 rfl rfl fun w => ?_
  have hlen := len64_fn v hx H
  rw [hlb] at hlen
  have hsub : ((v.log2 + 1 : Nat) : Int) - 1 = (v.log2 : Int) := by omega
  refine J10 ?_; refine yq6 ?_; refine J4 ?_; refine T.callV Wanted.none rfl rfl (hlen) ?_; refine J3 ?_
  rw [hsub]
  refine J4 ?_; (refine T.callW Wanted.none rfl rfl hl1 zq1 ?_; rintro _ H9 l2 _ ⟨rfl, hH9, hw2⟩; have hH9 := hH9.symm; subst hH9; have hl3 := hl2 _ hw2); refine J7 ?_; (refine T.callW Wanted.none rfl rfl hl3 zq1 ?_; rintro _ H9 l2 _ ⟨rfl, hH9, hw2⟩; have hH9 := hH9.symm; subst hH9); refine J5 ?_
  exact T.retW (Lv.finW _ zq4 (RV.tmp rfl rfl) ⟨rfl, rfl, hw2⟩)

end Go.Proofs.YtecogbhbkccblaaGreatDoor
namespace Go.Proofs.YtecogbhbkccblaaGreatDoor
open Go.RowKit



theorem delta_fn (wb : Nat) (l : List (Nat × Obj)) (bs : List Bool) (v : Nat) (H : Hp) (hw : WrOk wb l bs) (h0 : 0 < v) (hx : v < 65536) (hl : bs.length ≤ 800000) : FnW Tryz.prog 42 #[.pointer (some ⟨wb, 0, none⟩), .int .u64 (v : Int)] H l (fun u H' l' => u = .int .i64 0 ∧ H' = H ∧ WrOk wb l' (bs ++ deltaB v)) := by
  have h1 : decide ((v : Int) = 0) = false := decide_eq_false zO
  have hlb : lenB v = v.log2 + 1 := by unfold lenB; rw [if_neg zO]
  have hlog : v.log2 ≤ 15 := log2_le (k := 15) hx
  have hlog2 : (v.log2 + 1).log2 ≤ 4 := log2_le (k := 4) zO
  have hl1 : FnW Tryz.prog 76 #[.pointer (some ⟨wb, 0, none⟩), .int .u64 ((v.log2 : Int) + 1)] H l (fun u H' l' => u = .int .i64 0 ∧ H' = H ∧ WrOk wb l' (bs ++ gammaB (v.log2 + 1))) := gamma_fn wb l bs (v.log2 + 1) H hw zO zO zO
  have hl2 : ∀ l1, WrOk wb l1 (bs ++ gammaB (v.log2 + 1)) → FnW Tryz.prog 77 #[.pointer (some ⟨wb, 0, none⟩), .int .u64 (v : Int), .int .i64 (v.log2 : Int)] H l1 (fun u H' l' => u = .tuple #[] ∧ H' = H ∧ WrOk wb l' (bs ++ deltaB v)) := fun l1 h => by
    have := lowest_fn wb l1 _ v v.log2 H h zO zO (by rw [List.length_append, gammaB_len]; omega)
    rw [List.append_assoc] at this
    exact this
  refine FnW.of_T (vs := [.pointer (some ⟨wb, 0, none⟩), .int .u64 (v : Int)]) Tryz.func42 rfl rfl fun w => ?_
  have hlen := len64_fn v hx H
  rw [hlb] at hlen
  have hsub : ((v.log2 + 1 : Nat) : Int) - 1 = (v.log2 : Int) := by omega
  refine J10 ?_; refine yq6 ?_; refine J4 ?_; refine T.callV Wanted.none rfl rfl (hlen) ?_; refine J3 ?_
  rw [hsub]
  refine J5 ?_; refine yq42 ?_; (refine T.callW Wanted.none rfl rfl hl1 zq1 ?_; rintro _ H9 l2 _ ⟨rfl, hH9, hw2⟩; have hH9 := hH9.symm; subst hH9; have hl3 := hl2 _ hw2); refine J6 ?_; (refine T.callW Wanted.none rfl rfl hl3 zq1 ?_; rintro _ H9 l2 _ ⟨rfl, hH9, hw2⟩; have hH9 := hH9.symm; subst hH9); refine J5 ?_
  exact T.retW (Lv.finW _ zq4 (RV.tmp rfl rfl) ⟨rfl, rfl, hw2⟩)
theorem newWriter_fn (H : Hp) : FnW Tryz.prog 40 #[] H [] (fun u H' l' => H' = H ∧ ∃ wb, u = .pointer (some ⟨wb, 0, none⟩) ∧ WrOk wb l' []) := by
  refine FnW.of_T (vs := []) Tryz.func40 rfl rfl fun w => ?_; refine J6 ?_; refine yq39 ?_; (refine T.box Wanted.none rfl rfl zq15 ?_; intro b2); refine J2 ?_
  exact T.retW (Lv.finW _ (List.Sublist.refl _) (RV.tmp rfl rfl) ⟨rfl, b2, rfl, _, [], rfl, NRow.nil _ _⟩)
theorem wlen_fn (wb : Nat) (l : List (Nat × Obj)) (bs : List Bool) (H : Hp) (hw : WrOk wb l bs) : FnW Tryz.prog 41 #[.pointer (some ⟨wb, 0, none⟩)] H l (fun u H' l' => u = .int .i64 (bs.length : Int) ∧ H' = H ∧ l' = l) := by
  obtain ⟨v, lv, rfl, hv⟩ := hw
  have h1 : FnW Tryz.prog 74 #[.pointer (some ⟨wb, 0, none⟩)] H ((wb, .cells #[v, .int .i64 (bs.length : Int)] 146 (0, 0)) :: lv) (fun u H' l' => u = .int .i64 (bs.length : Int) ∧ H' = H ∧ l' = (wb, .cells #[v, .int .i64 (bs.length : Int)] 146 (0, 0)) :: lv) := by
    refine FnW.of_T (vs := [.pointer (some ⟨wb, 0, none⟩)]) Tryz.func74 rfl rfl fun w => ?_; refine J12 ?_
    exact T.retW (Lv.finW _ (List.Sublist.refl _) (RV.tmp rfl rfl) ⟨rfl, rfl, rfl⟩)
  refine FnW.of_T (vs := [.pointer (some ⟨wb, 0, none⟩)]) Tryz.func41 rfl rfl fun w => ?_; refine J9 ?_; refine T.callWV Wanted.none rfl rfl h1 zq1 ?_; refine J2 ?_
  exact T.retW (Lv.finW _ (by rw [List.append_nil]; exact List.Sublist.refl _) (RV.tmp rfl rfl) ⟨rfl, rfl, rfl⟩)
theorem wbytes_fn (wb : Nat) (l : List (Nat × Obj)) (bs : List Bool) (H : Hp) (hw : WrOk wb l bs) (hl : bs.length ≤ 1000000) : FnW Tryz.prog 43 #[.pointer (some ⟨wb, 0, none⟩)] H l (fun u H' l' => H' = H ∧ ∃ lu, l' = lu ++ l ∧ NRow 5 .u8 u lu (packB bs)) := by
  obtain ⟨v, lv, rfl, hv⟩ := hw
  refine FnW.of_T (vs := [.pointer (some ⟨wb, 0, none⟩)]) Tryz.func43 rfl rfl fun w => ?_; refine J6 ?_; (refine T.buildSlice Wanted.none rfl rfl zq11 zX zX ?_; intro b3); refine J5 ?_; (refine T.appendP (lv := []) Wanted.none rfl rfl rfl (Vec.empty 5 1 _) (hv.srcE [_, _]) (nV_one _ _) (by rw [packB_len]; omega) zq1 ?_; intro v9 lv9 hv9 _); refine J2 ?_
  rw [Nat.zero_add, List.nil_append] at hv9
  exact T.retW (Lv.finW (lv9 ++ (wb, .cells #[v, .int .i64 (bs.length : Int)] 146 (0, 0)) :: lv) (List.Sublist.append_left (List.Sublist.cons _ (List.Sublist.refl _)) _) (RV.tmp rfl rfl) ⟨rfl, lv9, rfl, hv9⟩)
/-! ### numbers as bytes of seven bits -/
theorem PV.convKR {P : Program} {e : Env} {l : List (Nat × Obj)} {H : Hp} {dst : Option Tmp} {ty : TypeId} {pos : String} {after : Array Edge} {gd : Option (Nat × Bool)} {s t : TypeId} {ks kt : IntKind} [hs : IntT P s ks] [ht : IntT P t kt] {x : Operand} {k : IntKind} {m r : Int} (hx : evE e x = some (.int k m)) (hr : kt.wrap m = r) :
    PV P e l H ⟨dst, .convert s t x, ty, pos, after, gd⟩ (.int kt r) := hr ▸ PV.convK hx
theorem wrap8 (x : Nat) : IntKind.u8.wrap (x : Int) = ((x % 256 : Nat) : Int) := by rw [IntKind.wrap_u8]; omega
structure PvG where
  x : Nat
  a : List Nat
  v : Value
  l : List (Nat × Obj)
theorem putUvarint_fn (v : Value) (lv : List (Nat × Obj)) (b : List Nat) (x : Nat) (H : Hp) (hv : NRow 5 .u8 v lv b) (hx : x < 2 ^ 62) (hl : b.length ≤ 10000000) : FnW Tryz.prog 36 #[v, .int .u64 (x : Int)] H lv (fun u H' l' => H' = H ∧ NRow 5 .u8 u l' (b ++ putV x)) := by
  obtain ⟨ad, cap, rfl⟩ := hv.val
  refine FnW.of_T (vs := [.slice ad b.length cap, .int .u64 (x : Int)]) Tryz.func36 rfl rfl fun w => ?_; refine J11 ?_; (refine T.makeSliceC (n := b.length) (c := b.length + 10) Wanted.none rfl rfl rfl zO ?_; intro v11 lv11 hv11; obtain ⟨ad11, cap11, rfl⟩ := hv11.val); refine J6 ?_; (refine T.copyP (lv := lv11) Wanted.none rfl rfl rfl hv11 (hv.srcE lv11) (Nat.le_refl _) (nV_one _ _) zq1 ?_; intro lv14 hv14); refine J3 ?_
  rw [Nat.mul_one, List.drop_of_length_le (by rw [nV_rep, nV_len, List.length_replicate]; exact Nat.le_refl _), List.append_nil] at hv14
  have hpl : (putV x).length ≤ 9 := putV_len 8 (Nat.lt_of_lt_of_le hx zD)
  refine T.loopK [] zq8 (γ := PvG) (fun g => putV x = g.a ++ putV g.x ∧ g.x < 2 ^ 62 ∧ NRow 5 .u8 g.v g.l (b ++ g.a)) (fun g => [(1, .int .u64 (g.x : Int)), (5, g.v)]) (fun g => g.l) (fun _ => H) (fun g => g.x) ⟨x, [], .slice ad11 b.length cap11, lv14⟩ ⟨rfl, hx, by dsimp only; rw [List.append_nil]; exact hv14⟩ zq8 zq23 rfl ?_
  rintro ⟨y, A, v2, l2⟩ ⟨g1, g2, g3⟩
  dsimp only at g1 g2 g3 ⊢
  obtain ⟨ad2, cap2, rfl⟩ := g3.val
  have hAl : A.length ≤ 9 := by have := congrArg List.length g1; rw [List.length_append] at this; omega
  have hbl : (b ++ A).length = b.length + A.length := List.length_append
  by_cases hy : 128 ≤ y
  · have hd : decide ((128 : Int) ≤ (y : Int)) = true := decide_eq_true zO
    have h8 := wrap8 y
    have hor : bits .or .u8 ((y % 256 : Nat) : Int) 128 = ((y % 128 + 128 : Nat) : Int) := by
      have h1 := bor_nat (k := .u8) (a := y % 256) (b := 128) zO zD
      rw [or_128 zO, Nat.mod_mod_of_dvd _ zD] at h1
      exact h1
    have hsh : shrI .u64 (y : Int) 7 = ((y / 128 : Nat) : Int) := by
      have := shr64 (x := y) (i := 7) zO
      rw [Nat.shiftRight_eq_div_pow] at this
      exact this
    refine J6 ?_; refine yq110 ?_; (refine sv (PV.convKR rfl zA) ?_ /-T.none-/); refine sv (PV.borR rfl rfl zA) ?_; (refine T.buildSlice Wanted.none rfl rfl zq11 zX zX ?_; intro b21); (refine T.appendP (lv := l2) Wanted.none rfl rfl rfl g3 (Src.cells (m := 1) (ys := nV .u8 [y % 128 + 128]) (.own zq2) rfl rfl) (nV_one _ _) zO zq1 ?_; intro v22 lv22 hv22 _; obtain ⟨ad22, cap22, rfl⟩ := hv22.val); refine J4 ?_; refine yq80 ?_; refine J3 ?_
    exact T.nextP ⟨y / 128, A ++ [y % 128 + 128], .slice ad22 ((b ++ A).length + 1) cap22, lv22⟩ ⟨by dsimp only; rw [g1, putV_hi hy, List.append_assoc]; rfl, by dsimp only; omega, by dsimp only; rw [← List.append_assoc]; exact NRow.app hv22⟩ zE zq8 zq23 rfl
  · have hd : decide ((128 : Int) ≤ (y : Int)) = false := decide_eq_false zO
    refine J6 ?_; refine yq6 ?_; refine J5 ?_; refine yq42 ?_; (refine T.buildSlice Wanted.none rfl rfl zq11 zX zX ?_; intro b28); (refine T.appendP (lv := l2) Wanted.none rfl rfl rfl g3 (Src.cells (m := 1) (ys := nV .u8 [y]) (.own zq2) rfl rfl) (nV_one _ _) zO zq1 ?_; intro v29 lv29 hv29 _; obtain ⟨ad29, cap29, rfl⟩ := hv29.val); refine J2 ?_
    exact T.retW (Lv.finW lv29 (List.sublist_append_left _ _) (RV.tmp rfl rfl) ⟨rfl, by rw [g1, putV_lo zO, ← List.append_assoc]; exact NRow.app hv29⟩)
theorem uvarint_fn (v : Nat) (rest : List Nat) (av : Value) (H : Hp) (ha : NSl H .u8 av (putV v ++ rest)) (hv : v < 2 ^ 56) (hl : rest.length ≤ 10000000) : Fn Tryz.prog 44 #[av] H (fun u _ => u = .tuple #[.int .u64 (v : Int), .int .i64 ((putV v).length : Int), .int .i64 0]) := by
  obtain ⟨ad, cap, rfl⟩ := ha.len
  have hpl : (putV v).length ≤ 8 := putV_len 7 (Nat.lt_of_lt_of_le hv zD)
  have hlen : (putV v ++ rest).length = (putV v).length + rest.length := List.length_append
  refine Fn.of_T (vs := [.slice ad (putV v ++ rest).length cap]) Tryz.func44 rfl rfl fun w => ?_; refine J14 ?_; refine T.loopK [(8, Value.int IntKind.i64 (↑(putV v ++ rest).length : Int)), (7, Value.slice ad (putV v ++ rest).length cap)] zq8 (γ := Nat) (fun i => i < (putV v).length) (fun i => [(9, .int .i64 (i : Int)), (2, .int .u64 ((v % 128 ^ i : Nat) : Int))]) (fun _ => []) (fun _ => H) (fun i => (putV v).length - i) 0 (List.length_pos_iff.2 (putV_ne v)) ⟨rfl, by rw [Nat.pow_zero, Nat.mod_one]; rfl, trivial⟩ zq23 rfl ?_
  rintro i hi
  obtain ⟨h1, h2⟩ := putV_get i v hi
  obtain ⟨q, hq⟩ : ∃ q, q = v / 128 ^ i % 128 := ⟨_, rfl⟩
  have hq1 : q < 128 := by rw [hq]; exact Nat.mod_lt _ zD
  rw [← hq] at h1
  have hat : ∀ c : Nat, (putV v)[i]? = some c → (putV v ++ rest)[i]? = some c := fun c hc => by rw [List.getElem?_append_left hi]; exact hc
  have hp7 : 2 ^ (7 * i) ≤ 2 ^ 49 := Nat.pow_le_pow_right zD zO
  have hqb : q * 2 ^ (7 * i) < 2 ^ 64 := by
    have : q * 2 ^ (7 * i) ≤ 127 * 2 ^ 49 := Nat.mul_le_mul zO hp7
    omega
  have hsl : shlI .u64 (q : Int) (7 * (i : Int)) = ((q * 2 ^ (7 * i) : Nat) : Int) := by
    have := shl_nat (k := .u64) (a := q) (n := 7 * i) (by have : IntKind.u64.bits = 64 := rfl; omega) hqb
    rw [Nat.shiftLeft_eq] at this
    exact this
  have hvm : v % 128 ^ i < 2 ^ 64 := Nat.lt_of_le_of_lt (Nat.mod_le _ _) zO
  have hor : bits .or .u64 ((v % 128 ^ i : Nat) : Int) ((q * 2 ^ (7 * i) : Nat) : Int) = ((v % 128 ^ (i + 1) : Nat) : Int) := by
    rw [bor_nat (k := .u64) hvm hqb, hq, or_seven]
  have h9 : decide ((i : Int) = 9) = false := decide_eq_false zO
  by_cases hc : 128 ≤ v / 128 ^ i
  · rw [if_pos hc] at h1
    obtain ⟨b, off, rfl, hsub⟩ := NSl.at ha (hat _ h1)
    have hand : bits .and .u8 ((q + 128 : Nat) : Int) 127 = (q : Int) := by
      have h3 := band_nat (k := .u8) (a := q + 128) (b := 127) zO zD
      rw [and_127, Nat.add_mod_right, Nat.mod_eq_of_lt hq1] at h3
      exact h3
    have hlt : decide (((q + 128 : Nat) : Int) < 128) = false := decide_eq_false zO
    have hand := hand
    have hsl := hsl
    have hor := hor
    refine J13 ?_; refine yq10 ?_; refine J9 ?_; refine T.setF (d := 16) rfl zO ?_; refine J10 ?_; refine yq109 ?_; refine yq42 ?_; refine J2 ?_; refine yq105 ?_; refine sv (PV.borR rfl rfl zA) ?_; refine J6 ?_
    refine J8 ?_
    exact T.nextP (i + 1) zO zO zq8 zq23 rfl
  · rw [if_neg hc, Nat.add_zero] at h1
    obtain ⟨b, off, rfl, hsub⟩ := NSl.at ha (hat _ h1)
    have hand : bits .and .u8 (q : Int) 127 = (q : Int) := by
      have h3 := band_nat (k := .u8) (a := q) (b := 127) zO zD
      rw [and_127, Nat.mod_eq_of_lt hq1] at h3
      exact h3
    have hlt : decide ((q : Int) < 128) = true := decide_eq_true zO
    have hend := putV_end (v := v) (i := i) zO
    have hle := h2.1 zO
    rw [hend] at hor
    by_cases hq0 : q = 0
    · have hi0 : i = 0 := by
        rcases Nat.eq_zero_or_pos i with h | h
        · exact h
        · exact absurd (show v / 128 ^ i = 0 by rw [Nat.mod_eq_of_lt zO] at hq; omega) (putV_last hi h)
      have hz : decide ((q : Int) = 0) = true := decide_eq_true zO
      have hz2 : decide ((0 : Int) < (i : Int)) = false := decide_eq_false zO
      have hand := hand
      have hsl := hsl
      have hor := hor
      refine J13 ?_; refine yq10 ?_; refine J9 ?_; refine T.setF (d := 16) rfl zO ?_; refine J10 ?_; refine yq109 ?_; refine yq42 ?_; refine J2 ?_; refine yq105 ?_; refine sv (PV.borR rfl rfl zA) ?_; refine J6 ?_
      refine J8 ?_; refine yq0 ?_; refine yq78 ?_; refine so ?_; refine yq6 ?_; refine J10 ?_
      exact T.retF (Lv.fin (RV.tmp3 rfl rfl rfl rfl) (by rw [← hle]; rfl))
    · have hz : decide ((q : Int) = 0) = false := decide_eq_false zO
      have hand := hand
      have hsl := hsl
      have hor := hor
      refine J13 ?_; refine yq10 ?_; refine J9 ?_; refine T.setF (d := 16) rfl zO ?_; refine J10 ?_; refine yq109 ?_; refine yq42 ?_; refine J2 ?_; refine yq105 ?_; refine sv (PV.borR rfl rfl zA) ?_; refine J6 ?_
      refine J8 ?_; refine yq5 ?_; refine yq90 ?_; refine J12 ?_
      exact T.retF (Lv.fin (RV.tmp3 rfl rfl rfl rfl) (by rw [← hle]; rfl))

end Go.Proofs.YtecogbhbkccblaaGreatDoor
