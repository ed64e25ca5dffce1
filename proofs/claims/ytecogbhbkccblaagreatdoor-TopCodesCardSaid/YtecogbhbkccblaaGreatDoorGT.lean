/- bitio: the reader.
   bitio: the reader's numbers.
   Own layer: complements, arrays as slices and slices as arrays, equal arrays; append to a full slice that is only read. -/
import Derived.Laws.Cover3
import Derived.Laws.Slices
import Derived.ChangeKeysEq
import Derived.Test.YtecogbhbkccblaaGreatDoorGS
set_option maxRecDepth 4000
set_option maxHeartbeats 40000000
set_option linter.all false
namespace Go.Proofs.YtecogbhbkccblaaGreatDoor
open Go.RowKit


/-- the block of a reader -/
abbrev RdB (rb : Nat) (v : Value) (n pos : Nat) : Nat × Obj := (rb, .cells #[v, .int .i64 (n : Int), .int .i64 (pos : Int)] 210 (0, 0))
theorem getB {bs : List Bool} {i : Nat} {b : Bool} (h : bs[i]? = some b) : gB bs i = b ∧ i < bs.length := ⟨by unfold gB; rw [h]; rfl, (List.getElem?_eq_some_iff.1 h).1⟩
theorem rsize_fn (rb : Nat) (v : Value) (n pos : Nat) (H : Hp) : FnW Tryz.prog 74 #[.pointer (some ⟨rb, 0, none⟩)] H [RdB rb v n pos] (fun u H' l' => u = .int .i64 (n : Int) ∧ H' = H ∧ l' = [RdB rb v n pos]) := by
  refine FnW.of_T (vs := [.pointer (some ⟨rb, 0, none⟩)]) Tryz.func74 rfl rfl fun w => ?_; refine J12 ?_
  exact T.retW (Lv.finW _ (List.Sublist.refl _) (RV.tmp rfl rfl) ⟨rfl, rfl, rfl⟩)
theorem rbit_fn (rb : Nat) (bs : List Bool) (v : Value) (pos at_ : Nat) (H : Hp) (hv : NSl H .u8 v (packB bs)) (ha : at_ < bs.length) (hl : bs.length ≤ 1000000) : FnW Tryz.prog 183 #[.pointer (some ⟨rb, 0, none⟩), .int .i64 (at_ : Int)] H [RdB rb v bs.length pos] (fun u H' l' => u = .int .u64 ((gB bs at_).toNat : Int) ∧ H' = H ∧ l' = [RdB rb v bs.length pos]) := by
  obtain ⟨ad, cap, rfl⟩ := hv.len
  obtain ⟨b, off, rfl, hsub⟩ := NSl.at hv (packB_bit ha)
  have hpl : (packB bs).length = (bs.length + 7) / 8 := packB_len bs
  have h3 := div8 (x := at_) zO
  have h7 := mod8 (x := at_) zO
  have hb : byteB bs (at_ / 8) < 256 := byteB_lt _ _
  obtain ⟨z, hz⟩ : ∃ z, z = byteB bs (at_ / 8) >>> (7 - at_ % 8) := ⟨_, rfl⟩
  have hz1 : z < 256 := by rw [hz, Nat.shiftRight_eq_div_pow]; exact Nat.lt_of_le_of_lt (Nat.div_le_self _ _) hb
  have hsh : shrI .u8 (byteB bs (at_ / 8) : Int) (7 - ((at_ % 8 : Nat) : Int)) = (z : Int) := by
    rw [show (7 : Int) - ((at_ % 8 : Nat) : Int) = ((7 - at_ % 8 : Nat) : Int) by omega, hz]
    exact shr_nat (k := .u8) hb
  have hand : bits .and .u64 (z : Int) 1 = ((gB bs at_).toNat : Int) := by
    have := andU64 z 1 zO zD
    rw [and_1, hz, byteB_bit] at this
    rw [hz]; exact this
  refine FnW.of_T (vs := [.pointer (some ⟨rb, 0, none⟩), .int .i64 (at_ : Int)]) Tryz.func183 rfl rfl fun w => ?_; refine J11 ?_; refine yq80 ?_; refine sv (PV.indexAddr rfl rfl zO) ?_; refine yq10 ?_; refine sm ?_; refine yq109 ?_; refine sv (PV.sub rfl rfl zO) ?_; refine yq80 ?_; refine yq42 ?_; refine yq109 ?_; refine J2 ?_
  exact T.retW (Lv.finW _ (List.Sublist.refl _) (RV.tmp rfl rfl) ⟨rfl, rfl, rfl⟩)
theorem take_fn (rb : Nat) (bs : List Bool) (v : Value) (pos at_ n x : Nat) (H : Hp) (hv : NSl H .u8 v (packB bs)) (hn : at_ + n ≤ bs.length) (hl : bs.length ≤ 1000000) (hx : x < 2 ^ n) (hb : ∀ i, i < n → bs[at_ + i]? = some (x.testBit (n - 1 - i))) (h62 : n ≤ 62) :
    FnW Tryz.prog 130 #[.pointer (some ⟨rb, 0, none⟩), .int .i64 (at_ : Int), .int .i64 (n : Int)] H [RdB rb v bs.length pos] (fun u H' l' => u = .tuple #[.int .u64 (x : Int), .bool true] ∧ H' = H ∧ l' = [RdB rb v bs.length pos]) := by
  have hsz := rsize_fn rb v bs.length pos H
  have hd : decide ((bs.length : Int) - (at_ : Int) < (n : Int)) = false := decide_eq_false zO
  have hxd : x / 2 ^ (n - 0) = 0 := Nat.div_eq_of_lt (by simpa using hx)
  refine FnW.of_T (vs := [.pointer (some ⟨rb, 0, none⟩), .int .i64 (at_ : Int), .int .i64 (n : Int)]) Tryz.func130 rfl rfl fun w => ?_; refine J11 ?_; refine T.callWV Wanted.none rfl rfl hsz zq1 ?_; refine yq44 ?_; refine J12 ?_; refine T.loopK [(18, Value.int IntKind.i64 (↑n : Int)), (0, Value.pointer (some { block := rb, off := 0 })), (1, Value.int IntKind.i64 (↑at_ : Int))] zq8 (γ := Nat) (fun i => i ≤ n) (fun i => [(19, .int .i64 (i : Int)), (8, .int .u64 ((x / 2 ^ (n - i) : Nat) : Int))]) (fun _ => [RdB rb v bs.length pos]) (fun _ => H) (fun i => n - i) 0 (Nat.zero_le _) ⟨rfl, by rw [hxd]; rfl, trivial⟩ zq23 rfl ?_
  rintro i hi
  by_cases h : i < n
  · have hlt : decide ((i : Int) < (n : Int)) = true := decide_eq_true zO
    have hbi := rbit_fn rb bs v pos (at_ + i) H hv zO hl
    rw [(getB (hb i h)).1] at hbi
    have hbi2 : FnW Tryz.prog 183 #[.pointer (some ⟨rb, 0, none⟩), .int .i64 ((at_ : Int) + (i : Int))] H [RdB rb v bs.length pos] (fun u H' l' => u = .int .u64 ((x.testBit (n - 1 - i)).toNat : Int) ∧ H' = H ∧ l' = [RdB rb v bs.length pos]) := hbi
    have hq : x / 2 ^ (n - i) < 2 ^ 62 := Nat.lt_of_le_of_lt (Nat.div_le_self _ _) (Nat.lt_of_lt_of_le hx (Nat.pow_le_pow_right zD h62))
    have hsl : shlI .u64 ((x / 2 ^ (n - i) : Nat) : Int) 1 = ((2 * (x / 2 ^ (n - i)) : Nat) : Int) := by
      have := shl_nat (k := .u64) (a := x / 2 ^ (n - i)) (n := 1) zD zO
      rw [Nat.shiftLeft_eq, Nat.pow_one, Nat.mul_comm] at this
      exact this
    have hor : bits .or .u64 ((2 * (x / 2 ^ (n - i)) : Nat) : Int) ((x.testBit (n - 1 - i)).toNat : Int) = ((x / 2 ^ (n - (i + 1)) : Nat) : Int) := by
      rw [bor_nat (k := .u64) zO (Nat.lt_of_le_of_lt (Bool.toNat_le _) zD), val_step x n i h]
    refine yq31 ?_; refine J10 ?_; refine yq105 ?_; refine J6 ?_; refine T.callWV Wanted.none rfl rfl hbi2 zq1 ?_; refine sv (PV.borR rfl rfl zA) ?_; refine J7 ?_
    exact T.nextP (i + 1) zO zO zq8 zq23 rfl
  · have hlt : decide ((i : Int) < (n : Int)) = false := decide_eq_false zO
    obtain rfl : i = n := by omega
    refine yq44 ?_; refine J7 ?_
    exact T.retW (Lv.finW _ zq4 (RV.tmp2 rfl rfl rfl) ⟨by rw [Nat.sub_self, Nat.pow_zero, Nat.div_one], rfl, rfl⟩)
theorem zeros_fn (rb : Nat) (bs : List Bool) (v : Value) (pos at_ n : Nat) (H : Hp) (hv : NSl H .u8 v (packB bs)) (hl : bs.length ≤ 1000000) (hb : ∀ i, i < n → bs[at_ + i]? = some false) (h1 : bs[at_ + n]? = some true) (h62 : n ≤ 62) :
    FnW Tryz.prog 182 #[.pointer (some ⟨rb, 0, none⟩), .int .i64 (at_ : Int), .int .i64 63] H [RdB rb v bs.length pos] (fun u H' l' => u = .tuple #[.int .i64 (n : Int), .int .i64 0] ∧ H' = H ∧ l' = [RdB rb v bs.length pos]) := by
  have hsz := rsize_fn rb v bs.length pos H
  have hln := (getB h1).2
  refine FnW.of_T (vs := [.pointer (some ⟨rb, 0, none⟩), .int .i64 (at_ : Int), .int .i64 63]) Tryz.func182 rfl rfl fun w => ?_; refine J10 ?_; refine T.loopK [(0, Value.pointer (some { block := rb, off := 0 })), (1, Value.int IntKind.i64 (↑at_ : Int)), (2, Value.int IntKind.i64 63)] zq8 (γ := Nat) (fun i => i ≤ n) (fun i => [(8, .int .i64 (i : Int))]) (fun _ => [RdB rb v bs.length pos]) (fun _ => H) (fun i => n - i) 0 (Nat.zero_le _) ⟨rfl, trivial⟩ zq23 rfl ?_
  rintro i hi
  have hd : decide ((bs.length : Int) ≤ (at_ : Int) + (i : Int)) = false := decide_eq_false zO
  have hd3 : decide ((i : Int) = 63) = false := decide_eq_false zO
  by_cases h : i < n
  · have hbi := rbit_fn rb bs v pos (at_ + i) H hv zO hl
    rw [(getB (hb i h)).1] at hbi
    have hbi2 : FnW Tryz.prog 183 #[.pointer (some ⟨rb, 0, none⟩), .int .i64 ((at_ : Int) + (i : Int))] H [RdB rb v bs.length pos] (fun u H' l' => u = .int .u64 0 ∧ H' = H ∧ l' = [RdB rb v bs.length pos]) := hbi
    refine J11 ?_; refine T.callWV Wanted.none rfl rfl hsz zq1 ?_; refine J2 ?_; refine yq6 ?_; refine J10 ?_; refine T.callWV Wanted.none rfl rfl hbi2 zq1 ?_; refine J10 ?_; refine yq85 ?_
    refine so ?_
    exact T.nextP (i + 1) zO zO zq8 zq23 rfl
  · obtain rfl : i = n := by omega
    have hbi := rbit_fn rb bs v pos (at_ + i) H hv zO hl
    rw [(getB h1).1] at hbi
    have hbi2 : FnW Tryz.prog 183 #[.pointer (some ⟨rb, 0, none⟩), .int .i64 ((at_ : Int) + (i : Int))] H [RdB rb v bs.length pos] (fun u H' l' => u = .int .u64 1 ∧ H' = H ∧ l' = [RdB rb v bs.length pos]) := hbi
    refine J11 ?_; refine T.callWV Wanted.none rfl rfl hsz zq1 ?_; refine J2 ?_; refine yq6 ?_; refine J10 ?_; refine T.callWV Wanted.none rfl rfl hbi2 zq1 ?_; refine J9 ?_
    exact T.retW (Lv.finW _ zq4 (RV.tmp2 rfl rfl rfl) ⟨rfl, rfl, rfl⟩)

end Go.Proofs.YtecogbhbkccblaaGreatDoor
namespace Go.Proofs.YtecogbhbkccblaaGreatDoor
open Go.RowKit


theorem rbits_fn (rb : Nat) (bs : List Bool) (v : Value) (pos n x : Nat) (H : Hp) (hv : NSl H .u8 v (packB bs)) (hn : pos + n ≤ bs.length) (hl : bs.length ≤ 1000000) (hx : x < 2 ^ n) (hb : ∀ i, i < n → bs[pos + i]? = some (x.testBit (n - 1 - i))) (h62 : n ≤ 62) :
    FnW Tryz.prog 180 #[.pointer (some ⟨rb, 0, none⟩), .int .i64 (n : Int)] H [RdB rb v bs.length pos] (fun u H' l' => u = .tuple #[.int .u64 (x : Int), .int .i64 0] ∧ H' = H ∧ l' = [RdB rb v bs.length (pos + n)]) := by
  have ht := take_fn rb bs v pos pos n x H hv hn hl hx hb h62
  have h1 : decide ((n : Int) < 0) = false := decide_eq_false zO
  have h2 : decide ((64 : Int) < (n : Int)) = false := decide_eq_false zO
  refine FnW.of_T (vs := [.pointer (some ⟨rb, 0, none⟩), .int .i64 (n : Int)]) Tryz.func180 rfl rfl fun w => ?_; refine J15 ?_; refine yq6 ?_; refine J9 ?_; refine T.callWV Wanted.none rfl rfl ht zq1 ?_; refine J18 ?_
  refine J6 ?_; refine yq1 ?_; refine J7 ?_
  exact T.retW (Lv.finW _ zq4 (RV.tmp2 rfl rfl rfl) ⟨rfl, rfl, rfl⟩)
theorem pos_fn (rb : Nat) (v : Value) (n pos : Nat) (H : Hp) : FnW Tryz.prog 127 #[.pointer (some ⟨rb, 0, none⟩)] H [RdB rb v n pos] (fun u H' l' => u = .int .i64 (pos : Int) ∧ H' = H ∧ l' = [RdB rb v n pos]) := by
  refine FnW.of_T (vs := [.pointer (some ⟨rb, 0, none⟩)]) Tryz.func127 rfl rfl fun w => ?_; refine J12 ?_
  exact T.retW (Lv.finW _ (List.Sublist.refl _) (RV.tmp rfl rfl) ⟨rfl, rfl, rfl⟩)
theorem rseek_fn (rb : Nat) (v : Value) (n pos p : Nat) (H : Hp) (hp : p ≤ n) : FnW Tryz.prog 80 #[.pointer (some ⟨rb, 0, none⟩), .int .i64 (p : Int)] H [RdB rb v n pos] (fun u H' l' => u = .int .i64 0 ∧ H' = H ∧ l' = [RdB rb v n p]) := by
  have hsz := rsize_fn rb v n pos H
  have h1 : decide ((p : Int) < 0) = false := decide_eq_false zO
  have h2 : decide ((n : Int) < (p : Int)) = false := decide_eq_false zO
  refine FnW.of_T (vs := [.pointer (some ⟨rb, 0, none⟩), .int .i64 (p : Int)]) Tryz.func80 rfl rfl fun w => ?_; refine J14 ?_; refine T.callWV (Wanted.guard rfl rfl rfl) rfl rfl hsz zq1 ?_; refine J3 ?_; refine yq6 ?_; refine J7 ?_; refine yq1 ?_; refine J5 ?_
  exact T.retW (Lv.finW _ zq4 (RV.tmp rfl rfl) ⟨rfl, rfl, rfl⟩)
/-- one of Elias' first codes stands at a place -/
structure GamAt (bs : List Bool) (at_ x : Nat) : Prop where
  pos : x ≠ 0
  zero : ∀ i, i < x.log2 → bs[at_ + i]? = some false
  one : bs[at_ + x.log2]? = some true
  num : ∀ i, i < x.log2 + 1 → bs[at_ + x.log2 + i]? = some (x.testBit (x.log2 - i))
theorem rgamma_fn (rb : Nat) (bs : List Bool) (v : Value) (pos at_ x : Nat) (H : Hp) (hv : NSl H .u8 v (packB bs)) (hl : bs.length ≤ 1000000) (hg : GamAt bs at_ x) (hx : x < 65536) :
    FnW Tryz.prog 129 #[.pointer (some ⟨rb, 0, none⟩), .int .i64 (at_ : Int)] H [RdB rb v bs.length pos] (fun u H' l' => u = .tuple #[.int .u64 (x : Int), .int .i64 ((at_ + 2 * x.log2 + 1 : Nat) : Int), .int .i64 0] ∧ H' = H ∧ l' = [RdB rb v bs.length pos]) := by
  have hlog : x.log2 ≤ 15 := log2_le (k := 15) hx
  have hz := zeros_fn rb bs v pos at_ x.log2 H hv hl hg.zero hg.one zO
  have hend := (getB (hg.num x.log2 zO)).2
  have ht : FnW Tryz.prog 130 #[.pointer (some ⟨rb, 0, none⟩), .int .i64 ((at_ : Int) + (x.log2 : Int)), .int .i64 ((x.log2 : Int) + 1)] H [RdB rb v bs.length pos] (fun u H' l' => u = .tuple #[.int .u64 (x : Int), .bool true] ∧ H' = H ∧ l' = [RdB rb v bs.length pos]) :=
    take_fn rb bs v pos (at_ + x.log2) (x.log2 + 1) x H hv zO hl Nat.lt_log2_self (fun i hi => by rw [hg.num i hi, Nat.add_sub_cancel]) zO
  refine FnW.of_T (vs := [.pointer (some ⟨rb, 0, none⟩), .int .i64 (at_ : Int)]) Tryz.func129 rfl rfl fun w => ?_; refine J10 ?_; refine T.callWV Wanted.none rfl rfl hz zq1 ?_; refine J22 ?_; refine T.callWV Wanted.none rfl rfl ht zq1 ?_; refine J11 ?_
  refine J15 ?_
  exact T.retW (Lv.finW _ zq4 (RV.tmp3 rfl rfl rfl rfl) ⟨rfl, rfl, rfl⟩)
theorem rdelta_fn (rb : Nat) (bs pre post : List Bool) (v : Value) (x : Nat) (H : Hp) (hv : NSl H .u8 v (packB bs)) (hl : bs.length ≤ 1000000) (hbs : bs = pre ++ (deltaB x ++ post)) (h0 : x ≠ 0) (hx : x < 65536) :
    FnW Tryz.prog 79 #[.pointer (some ⟨rb, 0, none⟩)] H [RdB rb v bs.length pre.length] (fun u H' l' => u = .tuple #[.int .u64 (x : Int), .int .i64 0] ∧ H' = H ∧ l' = [RdB rb v bs.length (pre ++ deltaB x).length]) := by
  obtain ⟨d1, d2, d3, d4⟩ := delta_read (pre := pre) (post := post) h0
  rw [← hbs] at d1 d2 d3 d4
  have hlog : x.log2 ≤ 15 := log2_le (k := 15) hx
  have hlog2 : (x.log2 + 1).log2 ≤ 4 := log2_le (k := 4) zO
  have hlen : bs.length = pre.length + (2 * (x.log2 + 1).log2 + 1 + x.log2 + post.length) := by rw [hbs, List.length_append, List.length_append, deltaB_len]
  have hg := rgamma_fn rb bs v pre.length pre.length (x.log2 + 1) H hv hl ⟨by omega, d1, d2, d3⟩ zO
  obtain ⟨y, hy⟩ : ∃ y, y = x % 2 ^ x.log2 := ⟨_, rfl⟩
  have hyl : y < 2 ^ x.log2 := by rw [hy]; exact Nat.mod_lt _ (Nat.two_pow_pos _)
  have ht := take_fn rb bs v pre.length (pre.length + 2 * (x.log2 + 1).log2 + 1) x.log2 y H hv zO hl hyl (fun i hi => by
    rw [d4 i hi, hy, Nat.testBit_mod_two_pow, decide_eq_true zO, Bool.true_and]) zO
  have hsub : ((x.log2 + 1 : Nat) : Int) - 1 = (x.log2 : Int) := by omega
  have h64 : decide ((64 : Int) < ((x.log2 + 1 : Nat) : Int)) = false := decide_eq_false zO
  have hp : 2 ^ x.log2 ≤ 2 ^ 15 := Nat.pow_le_pow_right zD hlog
  have hsl : shlI .u64 1 (x.log2 : Int) = ((1 * 2 ^ x.log2 : Nat) : Int) := by
    have := shl_nat (k := .u64) (a := 1) (n := x.log2) (by have : IntKind.u64.bits = 64 := rfl; omega) zO
    rw [Nat.shiftLeft_eq] at this
    exact this
  have hor : bits .or .u64 ((1 * 2 ^ x.log2 : Nat) : Int) (y : Int) = (x : Int) := by
    rw [bor_nat (k := .u64) zO zO, hy, or_top h0]
  refine FnW.of_T (vs := [.pointer (some ⟨rb, 0, none⟩)]) Tryz.func79 rfl rfl fun w => ?_; refine J12 ?_; refine T.callWV Wanted.none rfl rfl hg zq1 ?_; refine J22 ?_; refine yq6 ?_; refine J8 ?_
  rw [hsub]
  refine J5 ?_; refine T.callWV Wanted.none rfl rfl ht zq1 ?_; refine J22 ?_; refine yq1 ?_; refine J4 ?_; refine yq105 ?_; refine sm ?_; refine sv (PV.borR rfl rfl zA) ?_; refine J3 ?_
  refine T.retW (Lv.finW [RdB rb v bs.length (pre.length + 2 * (x.log2 + 1).log2 + 1 + x.log2)] zq4 (RV.tmp2 rfl rfl rfl) ⟨rfl, rfl, ?_⟩)
  rw [List.length_append, deltaB_len, show pre.length + 2 * (x.log2 + 1).log2 + 1 + x.log2 = pre.length + (2 * (x.log2 + 1).log2 + 1 + x.log2) by omega]
theorem newReader_fn (bs : List Bool) (rest : List Nat) (av : Value) (H : Hp) (ha : NSl H .u8 av (packB bs ++ rest)) (hl : bs.length ≤ 1000000) (hr : rest.length ≤ 10000000) :
    FnW Tryz.prog 78 #[av, .int .i64 (bs.length : Int)] H [] (fun u H' l' => H.le H' ∧ ∃ rb v, u = .tuple #[.pointer (some ⟨rb, 0, none⟩), .int .i64 0] ∧ l' = [RdB rb v bs.length 0] ∧ NSl H' .u8 v (packB bs)) := by
  obtain ⟨ad, cap, rfl⟩ := ha.len
  have hpl := packB_len bs
  have hal : (packB bs ++ rest).length = (packB bs).length + rest.length := List.length_append
  have hcap := SlR.cap ha
  have h1 : decide ((bs.length : Int) < 0) = false := decide_eq_false zO
  have h2 : decide (8 * ((packB bs ++ rest).length : Int) < (bs.length : Int)) = false := decide_eq_false zO
  have hq : ((bs.length : Int) + 7).tdiv 8 = (((bs.length + 7) / 8 : Nat) : Int) := by
    rw [show (bs.length : Int) + 7 = ((bs.length + 7 : Nat) : Int) by omega]; rfl
  refine FnW.of_T (vs := [.slice ad (packB bs ++ rest).length cap, .int .i64 (bs.length : Int)]) Tryz.func78 rfl rfl fun w => ?_
  have hs : SlR H 1 (.slice ad (packB bs).length cap) (packB bs).length (nV .u8 (packB bs)) := by
    have := SlR.pre ha (hi := (packB bs).length) zO
    rw [Nat.mul_one, nV_take, List.take_left] at this
    exact this
  refine J18 ?_; refine yq6 ?_; refine J3 ?_; (refine T.buildSlice Wanted.none rfl rfl zq11 zX zX ?_; intro b15); refine J3 ?_; refine sv (PV.quo rfl rfl zO zO) ?_; refine sv (PV.sliceH rfl rfl zO) ?_
  rw [show (((bs.length : Int) + 7).tdiv 8).toNat = (packB bs).length by rw [hq, hpl]; rfl]
  (refine T.appendP (lv := []) Wanted.none rfl rfl rfl (Vec.empty 5 1 _) hs.src (nV_one _ _) zO zq1 ?_; intro v21 lv21 hv21 _; rw [Nat.zero_add, List.nil_append] at hv21; obtain ⟨ad21, cap21, rfl⟩ := hv21.val); refine sm ?_; refine yq39 ?_; refine yq39 ?_; (refine T.box Wanted.none rfl rfl zq15 ?_; intro b25); refine J3 ?_; refine T.freezeP hv21 zq1 ?_
  intro H2 hle2 hs2
  exact T.retW (Lv.finW [RdB b25 (.slice ad21 (packB bs).length cap21) bs.length 0] zq4 (RV.tmp2 rfl rfl rfl) ⟨hle2, b25, _, rfl, rfl, hs2⟩)

end Go.Proofs.YtecogbhbkccblaaGreatDoor
namespace Go.Proofs.YtecogbhbkccblaaGreatDoor
open Go.RowKit


section
variable {P : Program} {e : Env} {l : List (Nat × Obj)} {H : Hp} {dst : Option Tmp} {ty : TypeId} {pos : String} {after : Array Edge} {gd : Option (Nat × Bool)}
theorem compl32 {v : Nat} (h : v < 2 ^ 32) : (2 ^ 32 - 1) ^^^ v = 2 ^ 32 - 1 - v := by
  refine Nat.eq_of_testBit_eq fun i => ?_
  rw [Nat.testBit_xor, Nat.testBit_two_pow_sub_one, show 2 ^ 32 - 1 - v = 2 ^ 32 - (v + 1) by omega, Nat.testBit_two_pow_sub_succ h]
  by_cases hi : i < 32
  · simp [hi]
  · rw [Nat.testBit_lt_two_pow (Nat.lt_of_lt_of_le h (Nat.pow_le_pow_right zD zO))]
    simp [hi]
theorem PV.compl32 {x : Operand} {t : TypeId} {v : Nat} (hx : evE e x = some (.int .u32 (v : Int))) (h : v < 2 ^ 32) : PV P e l H ⟨dst, .unOp .xor t x, ty, pos, after, gd⟩ (.int .u32 ((0xFFFFFFFF - v : Nat) : Int)) := PV.mk fun X D a w ha hw => by
  have h1 := bxor_nat (k := .u32) (a := 0xFFFFFFFF) (b := v) zD h
  have h2 := _root_.Go.Proofs.YtecogbhbkccblaaGreatDoor.compl32 h
  rw [show (2 : Nat) ^ 32 - 1 = 0xFFFFFFFF by decide] at h2
  rw [h2] at h1
  have h3 : IntKind.u32.max = ((0xFFFFFFFF : Nat) : Int) := by decide
  have h4 : IntKind.u32.signed = false := by decide
  simp only [execOp, ha.eval hx, Op.unary, Sem.run_bind, Sem.run_pure, Result.andThen_ok, h4, h3, Bool.false_eq_true, if_false, intBits_xor, h1]
theorem PV.sliceArr {t n el sz : Nat} [h : ArrOf P t n el sz] {x : Operand} {b o : Nat} (hx : evE e x = some (.pointer (some ⟨b, o, none⟩))) :
    PV P e l H ⟨dst, .slice t x none none none, ty, pos, after, gd⟩ (.slice (some ⟨b, o, none⟩) n n) := PV.mk fun X D a w ha hw => by
  have he : P.underlying t = some (.array (P.arrayLen t) (P.elem t)) ∧ P.arrayLen t = n ∧ P.elem t = el := by
    have := h.h
    unfold Program.arrayLen Program.elem
    rw [this]
    exact ⟨rfl, rfl, rfl⟩
  have h1 := run_sliceAt_array_all (P := P) w t ⟨b, o, none⟩ he.1
  rw [he.2.1, he.2.2, h.s w] at h1
  have hz : (⟨b, o, none⟩ : Addr).add (0 * sz) = ⟨b, o, none⟩ := by rw [Nat.zero_mul, addr_add]; rfl
  simp [execOp, ha.eval hx, h1, slicedAt, addr_add]
theorem PV.arrPtr {t n el sz : Nat} [h : ArrOf P t n el sz] {x : Operand} {ad : Option Addr} {len cap : Nat} (hx : evE e x = some (.slice ad len cap)) (hn : Nat.ble n len = true) :
    PV P e l H ⟨dst, .sliceToArrayPointer t x, ty, pos, after, gd⟩ (.pointer ad) := PV.mk fun X D a w ha hw => by
  have h1 := run_arrayAt (P := P) (w := w) t el n ad len cap h.h (Nat.le_of_ble_eq_true hn)
  simp [execOp, ha.eval hx, h1]
/-- arrays of four numbers that are one -/
theorem PV.arrSame4 {t t' : TypeId} {el bytes : Nat} {k : IntKind} [h : ArrOf P t 4 el 1] [h1 : IsOne P el] [hk : IntT P el k] [he : ElOf P el 1 bytes] (hg : P.eqGuardType P.depth t = false) (hc : P.cellsOf el = 1) {x y : Operand} {a0 a1 a2 a3 : Int} (hx : evE e x = some (.agg #[.int k a0, .int k a1, .int k a2, .int k a3])) (hy : evE e y = some (.agg #[.int k a0, .int k a1, .int k a2, .int k a3])) :
    PV P e l H ⟨dst, .binOp .neq t x y t', ty, pos, after, gd⟩ (.bool false) := PV.mk fun X D a w ha hw => by
  obtain ⟨i, _, hi, _⟩ := he.h
  have hq : ∀ (n : Int), (Op.equalIn 9999 el (.int k n) (.int k n)).run P w = .ok true w := fun n => by
    rw [run_equalIn_int (P := P) w 9998 el k k n n hk.h]; simp
  have h2 := run_equalIn_array (P := P) (w := w) 9999 #[.int k a0, .int k a1, .int k a2, .int k a3] #[.int k a0, .int k a1, .int k a2, .int k a3] h.h hi
  have hr : List.range 4 = [0, 1, 2, 3] := rfl
  rw [hc, hr] at h2
  have h3 : (Op.equalIn 10000 t (.agg #[.int k a0, .int k a1, .int k a2, .int k a3]) (.agg #[.int k a0, .int k a1, .int k a2, .int k a3])).run P w = .ok true w := by
    rw [h2]
    simp [Op.eqItems, part, h1.h, hq]
  simp [execOp, ha.eval hx, ha.eval hy, run_eqGuard_agg w .neq t x y _ _ hg, run_neq_struct, h3]
end
section
variable {P : Program} {X : Cx} {e : Env} {l : List (Nat × Obj)} {H : Hp} {D : List Deferred} {k : List It}
variable {ty : TypeId} {pos : String} {after : Array Edge} {gd : Option (Nat × Bool)} {all : Array Oper} {rest : List Oper}
/-- append to a slice without room: a new row. -/
theorem T.appendFull {t t' el sz bytes d : Nat} [hs : SlOf P t el sz] [he : ElOf P el sz bytes] [hn' : NotInt P t'] {x y : Operand} {ad : Option Addr} {yv : Value} {n cap m : Nat} {xs ys : List Value}
    (hw : Wanted e all ⟨some d, .call ⟨.builtin .append, #[x, y], #[t, t']⟩, ty, pos, after, gd⟩) (hN : Nat.blt d X.N = true) (hx : evE e x = some (.slice ad n cap)) (hy : evE e y = some yv)
    (hv : Src P l H sz (.slice ad n cap) n xs) (hsrc : Src P l H sz yv m ys) (hb : (n + m) * bytes ≤ 140737488355328 ∧ n + m ≤ 140737488355328) (hroom : cap < n + m)
    (h : ∀ v' lv', Vec el sz v' lv' (n + m) (xs ++ ys) → T P X ((d, v') :: e) (lv' ++ l) H D (.ops all rest :: k)) :
    T P X e l H D (.ops all (⟨some d, .call ⟨.builtin .append, #[x, y], #[t, t']⟩, ty, pos, after, gd⟩ :: rest) :: k) :=
  T.step hw rfl hN fun a w ha hw' => by
    obtain ⟨i, z, hi, hz, hsz, hby, hzs, hpos⟩ := he.h
    have hr := run_append_new (ty := ty) hs.h hi hz hsz hby hn'.h rfl (hsrc.2.1 w) (hv.2.2 X w.drew hw'.drew) (hsrc.2.2 X w.drew hw'.drew) hroom hb.1 hb.2
    obtain ⟨cs', c1, c2, c3, c4, c5⟩ := grown_cs w (n := n) (m := m) (old := cap) (el := el) (z := z) (xs := xs) (ys := ys) hv.1 hsrc.1 hzs hb.2
    rw [c1] at hr
    have hxy : (xs ++ ys).length = (n + m) * sz := by rw [List.length_append, hv.1, hsrc.1, Nat.add_mul]
    refine ⟨_, [(w.heap.size, .cells cs'.toArray el)] ++ l, H, _, ?_, hw'.drew.alloc _, h _ [(w.heap.size, .cells cs'.toArray el)] ⟨hxy, .inr ⟨_, _, cs', rfl, rfl, c3, c2, c4, c5⟩⟩⟩
    simp [execOp, resolve, invoke, builtin, ha.eval hx, ha.eval hy, hr]
end
/-- some numbers of a row that is only read -/
theorem NSl.sub {H : Hp} {k : IntKind} {b off n cap : Nat} {l : List Nat} (h : SlR H 1 (.slice (some ⟨b, off, none⟩) n cap) l.length (nV k l)) {lo m : Nat} (hm : lo + m ≤ l.length) (h0 : 0 < l.length) : SubC H b (off + lo * 1) (nV k ((l.drop lo).take m)) := by
  rcases h.2 with ⟨_, h⟩ | ⟨b', off', cap', cs, t, fz, he, h2, h3, h4⟩
  · omega
  · injection he with e1 e2 e3
    injection e1 with e1
    injection e1 with e4 e5
    subst e4 e5
    refine ⟨cs, t, fz, h2, ?_⟩
    rw [nV_len, List.length_take, List.length_drop, Nat.min_eq_left zO, ← List.drop_drop, Nat.mul_one]
    have h5 : (cs.drop off).take l.length = nV k l := by rw [← h3, Nat.mul_one]
    have h6 : nV k ((l.drop lo).take m) = (((cs.drop off).take l.length).drop lo).take m := by rw [h5, nV_drop, nV_take]
    rw [h6, List.drop_take, List.take_take]
    congr 1; omega
theorem T.ownEq {P : Program} {X : Cx} {e : Env} {l l' : List (Nat × Obj)} {H : Hp} {D : List Deferred} {k : List It} (hl : l = l') (h : T P X e l' H D k) : T P X e l H D k := hl ▸ h

end Go.Proofs.YtecogbhbkccblaaGreatDoor
