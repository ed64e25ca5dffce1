/- bytes.Equal; block: the lower bits are read.
   block: unpacking. -/
import Derived.Test.YtecogbhbkccblaaGreatDoorGV
set_option maxRecDepth 4000
set_option maxHeartbeats 40000000
set_option linter.all false
namespace Go.Proofs.YtecogbhbkccblaaGreatDoor
open Go.RowKit


def toU (l : List Nat) : List UInt8 := l.map UInt8.ofNat
theorem toU_bytes {l : List Nat} (h : ∀ c ∈ l, c < 256) : bytesV (toU l) = nV .u8 l := by
  unfold bytesV toU nV
  rw [List.map_map]
  refine List.map_congr_left fun c hc => ?_
  have := h c hc
  simp only [Function.comp, UInt8.toNat_ofNat']
  rw [Nat.mod_eq_of_lt this]
theorem bytesEqual_fn (l : List Nat) (va vb : Value) (H : Hp) (ha : NSl H .u8 va l) (hb : NSl H .u8 vb l) (h : ∀ c ∈ l, c < 256) : Fn Tryz.prog 35 #[va, vb] H (fun u _ => u = .bool true) := by
  refine Fn.of_T (vs := [va, vb]) Tryz.func35 rfl rfl fun w => ?_
  have hsa : ∀ lo, Src Tryz.prog lo H 1 va l.length (bytesV (toU l)) := fun lo => by rw [toU_bytes h]; exact ha.src
  have hsb : ∀ lo, Src Tryz.prog lo H 1 vb l.length (bytesV (toU l)) := fun lo => by rw [toU_bytes h]; exact hb.src
  refine J7 ?_; (refine sv (PV.bytesStr rfl (hsa _) ha.len) ?_ /-T.none-/); refine sm ?_; (refine sv (PV.bytesStr rfl (hsb _) hb.len) ?_ /-T.none-/); refine J3 ?_
  exact T.retF (Lv.fin (RV.tmp rfl rfl) (by rw [decide_eq_true rfl]))
theorem lowBits_get {vs : List Nat} {w i v : Nat} (hv : vs[i]? = some v) {k : Nat} (hk : k < w) : (lowBits vs w)[i * w + k]? = some ((v % 2 ^ w).testBit (w - 1 - k)) := by
  have hi := (List.getElem?_eq_some_iff.1 hv).1
  have hv2 := (List.getElem?_eq_some_iff.1 hv).2
  have e1 : lowBits vs w = lowBits (vs.take i) w ++ (bitsOf (v % 2 ^ w) w ++ lowBits (vs.drop (i + 1)) w) := by
    unfold lowBits
    conv => lhs; rw [← List.take_append_drop i vs, List.flatMap_append, List.drop_eq_getElem_cons hi, List.flatMap_cons, hv2]
  have e2 : (lowBits (vs.take i) w).length = i * w := by rw [lowBits_len, List.length_take, Nat.min_eq_left zO]
  rw [e1, List.getElem?_append_right zO, e2, Nat.add_sub_cancel_left, List.getElem?_append_left (by rw [bitsOf_len]; exact hk), bitsOf_get hk]
/-- the lower bits as they are laid -/
def lowU (vs : List Nat) (w i : Nat) : List Nat := tabF vs.length (fun j => if j < i then vs[j]?.getD 0 % 2 ^ w else 0)
theorem lowU_len (vs : List Nat) (w i : Nat) : (lowU vs w i).length = vs.length := tabF_len _ _
theorem lowU_zero (vs : List Nat) (w : Nat) : lowU vs w 0 = List.replicate vs.length 0 := by
  unfold lowU
  rw [← tabF_zero]
  exact tabF_congr fun i _ => by rw [if_neg zO]
theorem lowU_all (vs : List Nat) (w : Nat) : lowU vs w vs.length = mendB vs w 0 := by
  unfold lowU mendB tabF
  refine List.map_congr_left fun i hi => ?_
  rw [List.mem_range] at hi
  rw [if_pos hi, List.take_zero, if_neg (by simp)]
theorem lowU_succ {vs : List Nat} {w i v : Nat} (hv : vs[i]? = some v) : (lowU vs w i).set i (v % 2 ^ w) = lowU vs w (i + 1) := by
  unfold lowU
  rw [tabF_set]
  refine tabF_congr fun j hj => ?_
  by_cases h : j = i
  · subst h; rw [if_pos rfl, if_pos zO, hv]; rfl
  · rw [if_neg h]
    by_cases h2 : j < i
    · rw [if_pos h2, if_pos zO]
    · rw [if_neg h2, if_neg zO]
structure LoG where
  i : Nat
  p : Nat
  lv : List (Nat × Obj)
theorem low_fn (vs : List Nat) (w : Nat) (rest : List Nat) (av : Value) (H : Hp) (ha : NSl H .u8 av (packB (lowBits vs w) ++ rest)) (hl : vs.length ≤ 128) (hb : ∀ v ∈ vs, v < 65536) (hw : w ≤ 31) (hr : rest.length ≤ 10000000) : FnW Tryz.prog 124 #[av, .int .i64 (vs.length : Int), .int .i64 (w : Int)] H [] (fun u H' l' => H.le H' ∧ NRow 3 .i64 u l' (mendB vs w 0)) := by
  have hlm : vs.length * w ≤ 128 * 31 := Nat.mul_le_mul zO hw
  have hll := lowBits_len vs w
  have hnr := newReader_fn (lowBits vs w) rest av H ha zO hr
  have hm2 : ((lowBits vs w).length : Int) = (vs.length : Int) * (w : Int) := by rw [hll]; exact Int.natCast_mul _ _
  rw [hm2] at hnr
  refine FnW.of_T (vs := [av, .int .i64 (vs.length : Int), .int .i64 (w : Int)]) Tryz.func124 rfl rfl fun wd => ?_
  have hm3 : (vs.length : Int) * (w : Int) = ((vs.length * w : Nat) : Int) := (Int.natCast_mul _ _).symm
  refine J10 ?_; (refine T.callW Wanted.none rfl rfl hnr Pick.nil ?_; rintro _ H1 _ hle1 ⟨_, rb, v, rfl, rfl, hrv⟩); refine J9 ?_; (refine T.makeSliceN (n := vs.length) Wanted.none rfl rfl rfl zO ?_; intro v22 lv22 hv22; rw [nV_rep] at hv22; obtain ⟨ad22, cap22, rfl⟩ := hv22.val); refine J10 ?_; refine T.loopK [(24, Value.int IntKind.i64 (↑vs.length : Int)), (9, Value.slice ad22 vs.length cap22), (7, Value.pointer (some { block := rb, off := 0 })), (2, Value.int IntKind.i64 (↑w : Int))] zq8 (γ := LoG) (fun g => g.i ≤ vs.length ∧ g.p = g.i * w ∧ Vec 3 1 (.slice ad22 vs.length cap22) g.lv vs.length (nV .i64 (lowU vs w g.i))) (fun g => [(25, .int .i64 (g.i : Int))]) (fun g => RdB rb v (lowBits vs w).length g.p :: g.lv) (fun _ => H1) (fun g => vs.length - g.i) ⟨0, 0, lv22⟩ ⟨Nat.zero_le _, by simp, by dsimp only; rw [lowU_zero]; exact hv22⟩ zq8 zq23 rfl ?_
  rintro ⟨i, p, lv⟩ ⟨hi, hp, hlv⟩
  dsimp only at hi hp hlv ⊢
  subst hp
  by_cases h : i < vs.length
  · obtain ⟨x, hx⟩ : ∃ x, vs[i]? = some x := ⟨_, List.getElem?_eq_getElem h⟩
    have hx1 := hb x (List.mem_of_getElem? hx)
    have hm : x % 2 ^ w < 65536 := Nat.lt_of_le_of_lt (Nat.mod_le _ _) hx1
    have hiw : i * w + w ≤ vs.length * w := by rw [← Nat.succ_mul]; exact Nat.mul_le_mul_right _ h
    have hbits := rbits_fn rb (lowBits vs w) v (i * w) w (x % 2 ^ w) H1 hrv zO zO (Nat.mod_lt _ (Nat.two_pow_pos w)) (fun k hk => lowBits_get hx hk) zO
    rw [← Nat.succ_mul] at hbits
    obtain ⟨bq, cq, he⟩ := hlv.ptr zO
    injection he with e1 e2 e3
    subst e1 e3
    have hd : decide ((i : Int) < (vs.length : Int)) = true := decide_eq_true zO
    refine yq31 ?_; refine J12 ?_; (refine T.callWV Wanted.none rfl rfl hbits zq1 ?_); refine J12 ?_; (refine T.storeVecP (lv := lv) Wanted.none rfl rfl rfl hlv (by rw [Nat.zero_add, Nat.mul_one, Int.toNat_natCast, nV_len, lowU_len]; exact h) zq1 ?_; intro lv3 hv3); refine J6 ?_
    rw [Nat.zero_add, Nat.mul_one, Int.toNat_natCast, nV_set, lowU_succ hx] at hv3
    exact T.nextP ⟨i + 1, (i + 1) * w, lv3⟩ ⟨by dsimp only; omega, rfl, hv3⟩ zE zq8 zq23 rfl
  · have hd : decide ((i : Int) < (vs.length : Int)) = false := decide_eq_false zO
    obtain rfl : i = vs.length := by omega
    refine yq44 ?_; refine J6 ?_
    refine T.retW (Lv.finW lv zq4 (RV.tmp rfl rfl) ⟨hle1, ?_⟩)
    unfold NRow
    rw [mendB_len, ← lowU_all]
    exact hlv

end Go.Proofs.YtecogbhbkccblaaGreatDoor
namespace Go.Proofs.YtecogbhbkccblaaGreatDoor
open Go.RowKit


theorem PV.quoZ {P : Program} {e : Env} {l : List (Nat × Obj)} {H : Hp} {dst : Option Tmp} {ty : TypeId} {pos : String} {after : Array Edge} {gd : Option (Nat × Bool)} {x y : Operand} {t t' : TypeId} {z : Int} {m n : Nat} (hz : z = (m : Int)) (hx : evE e x = some (.int .i64 z)) (hy : evE e y = some (.int .i64 (n : Int))) (h0 : 0 < n) (hm : m < 2 ^ 62) :
    PV P e l H ⟨dst, .binOp .quo t x y t', ty, pos, after, gd⟩ (.int .i64 ((m / n : Nat) : Int)) := by
  subst hz
  exact PV.quoN hx hy h0 hm
theorem packV_lt {vs : List Nat} : ∀ c ∈ packV vs, c < 256 := by
  intro c hc
  unfold packV encB at hc
  simp only [List.mem_append] at hc
  have hg : ∀ (l : List Nat) (b : Nat), c ∈ gapB vs (bestB vs 32) b l → c < 256 := by
    intro l
    induction l with
    | nil => intro b h; simp [gapB] at h
    | cons e l ih =>
      intro b h
      rw [gapB] at h
      simp only [List.mem_append] at h
      rcases h with h | h | h
      · exact putV_lt _ h
      · exact putV_lt _ h
      · exact ih _ h
  rcases hc with h | h | h | h | h
  · exact putV_lt _ h
  · exact putV_lt _ h
  · exact putV_lt _ h
  · exact packB_lt h
  · exact hg _ _ h
theorem gapB_len2 {vs : List Nat} {w : Nat} (hb : ∀ v ∈ vs, v < 65536) : ∀ (l : List Nat) (b : Nat), (∀ e ∈ l, e < 128) → (gapB vs w b l).length ≤ 6 * l.length
  | [], _, _ => Nat.zero_le _
  | e :: l, b, h => by
    rw [gapB, List.length_append, List.length_append]
    have h0 := h e List.mem_cons_self
    have h1 := putV_len 2 (show e + 1 - b < 128 ^ 3 by omega)
    have h2 := putV_len 2 (show vs[e]?.getD 0 / 2 ^ w < 128 ^ 3 from Nat.lt_of_le_of_lt (Nat.div_le_self _ _) (Nat.lt_trans (getD_lt zD hb e) zD))
    have := gapB_len2 hb (w := w) l (e + 1) fun j hj => h j (List.mem_cons_of_mem _ hj)
    rw [List.length_cons]
    omega
structure UnpG where
  k : Nat
  c : Int
  z : Int
  v : Value
  lv : List (Nat × Obj)
theorem unpack_fn (vs : List Nat) (av : Value) (H : Hp) (ha : NSl H .u8 av (packV vs)) (hl : vs.length ≤ 128) (hb : ∀ v ∈ vs, v < 65536) : Fn Tryz.prog 71 #[av] H (fun u H' => ∃ v, u = .tuple #[v, .int .i64 0] ∧ NSl H' .i64 v vs) := by
  obtain ⟨ad, cap, rfl⟩ := ha.len
  obtain ⟨w, hwe⟩ : ∃ w, w = bestB vs 32 := ⟨_, rfl⟩
  have hw : w ≤ 31 := by rw [hwe]; exact bestB_le vs 31
  have hpl : (packV vs).length = (encB vs w).length := by rw [hwe]; rfl
  have ha' : NSl H .u8 (.slice ad (packV vs).length cap) (encB vs w) := by rw [hwe]; exact ha
  have hll := lowBits_len vs w
  have hlm : vs.length * w ≤ 128 * 31 := Nat.mul_le_mul zO hw
  have hpk := packB_len (lowBits vs w)
  have hxl := exI_len vs w vs.length
  have hgl := gapB_len (vs := vs) (w := w) (i := vs.length) hb hl
  have hp1 := putV_len 2 (show vs.length < 128 ^ 3 by omega)
  have hp2 := putV_len 2 (show w < 128 ^ 3 by omega)
  have hp3 := putV_len 2 (show (exI vs w vs.length).length < 128 ^ 3 by omega)
  unfold encB at ha'
  have hL : (packB (lowBits vs w) ++ gapB vs w 0 (exI vs w vs.length)).length = (packB (lowBits vs w)).length + (gapB vs w 0 (exI vs w vs.length)).length := List.length_append
  have hL2 : (putV (exI vs w vs.length).length ++ (packB (lowBits vs w) ++ gapB vs w 0 (exI vs w vs.length))).length = (putV (exI vs w vs.length).length).length + ((packB (lowBits vs w)).length + (gapB vs w 0 (exI vs w vs.length)).length) := by rw [List.length_append, hL]
  have hL3 : (putV w ++ (putV (exI vs w vs.length).length ++ (packB (lowBits vs w) ++ gapB vs w 0 (exI vs w vs.length)))).length = (putV w).length + ((putV (exI vs w vs.length).length).length + ((packB (lowBits vs w)).length + (gapB vs w 0 (exI vs w vs.length)).length)) := by rw [List.length_append, hL2]
  have hm2 : (vs.length : Int) * (w : Int) + 7 = ((vs.length * w + 7 : Nat) : Int) := by rw [Int.natCast_add, Int.natCast_mul]; rfl
  have hsz : ((vs.length * w + 7) / 8 : Nat) = (packB (lowBits vs w)).length := by rw [hpk, hll]
  have hm3 : (vs.length : Int) * (w : Int) = ((vs.length * w : Nat) : Int) := (Int.natCast_mul _ _).symm
  refine Fn.of_T (vs := [.slice ad (packV vs).length cap]) Tryz.func71 rfl rfl fun wd => ?_; refine J5 ?_; refine T.scope (fun _ _ _ h => h) ?_; refine J15 ?_; refine yq39 ?_; refine sy fun b7 => ?_; refine yq2 ?_; refine zs1 ?_; (refine T.callW Wanted.none rfl rfl (bNumber_fn b7 _ vs.length 128 _ _ ha' zO hl zD zO) zq1 ?_; rintro _ H15 _ _ ⟨rfl, hH15, v15, rfl, hv15⟩; have hH15 := hH15.symm; subst hH15); (refine T.callW Wanted.none rfl rfl (bNumber_fn b7 _ w 31 _ _ hv15 zO hw zD zO) zq1 ?_; rintro _ H16 _ _ ⟨rfl, hH16, v16, rfl, hv16⟩; have hH16 := hH16.symm; subst hH16); (refine T.callW Wanted.none rfl rfl (bNumber_fn b7 _ (exI vs w vs.length).length 128 _ _ hv16 zO zO zD zO) zq1 ?_; rintro _ H17 _ _ ⟨rfl, hH17, v17, rfl, hv17⟩; have hH17 := hH17.symm; subst hH17; obtain ⟨ad17, cap17, rfl⟩ := hv17.len); refine J10 ?_; (refine sv (PV.quoZ (m := vs.length * w + 7) (n := 8) hm2 rfl rfl zD zO) ?_ /-T.none-/); refine J2 ?_
  rw [hsz]
  have hd1 : decide (((packB (lowBits vs w) ++ gapB vs w 0 (exI vs w vs.length)).length : Int) < ((packB (lowBits vs w)).length : Int)) = false := decide_eq_false zO
  have hpre : NSl H .u8 (.slice ad17 (packB (lowBits vs w)).length cap17) (packB (lowBits vs w) ++ []) := by
    have := SlR.pre hv17 (hi := (packB (lowBits vs w)).length) zO
    rw [Nat.mul_one, nV_take, List.take_left] at this
    rw [List.append_nil]
    exact this
  have hsuf := NSl.suf hv17 (lo := (packB (lowBits vs w)).length) zO
  rw [List.drop_left] at hsuf
  have hcap := SlR.cap hv17
  have hlow := low_fn vs w [] _ H hpre hl hb hw zD
  refine J14 ?_; refine yq85 ?_; refine sv (PV.sliceH rfl rfl zO) ?_; refine J2 ?_; (refine T.callW Wanted.none rfl rfl hlow Pick.nil ?_; rintro v39 H1 lv1 _ ⟨hle1, hlv1⟩; unfold NRow at hlv1; rw [mendB_len] at hlv1; obtain ⟨ad39, cap39, rfl⟩ := hlv1.val); refine J7 ?_; refine sv (PV.sliceL rfl rfl zO) ?_; refine sf ?_; refine yq1 ?_; refine J3 ?_
  obtain ⟨Xs, hXs⟩ : ∃ Xs, Xs = exI vs w vs.length := ⟨_, rfl⟩
  have hpw : Xs.Pairwise (· < ·) := by rw [hXs]; exact exI_pw _ _ _
  rw [← hXs] at hsuf hxl ⊢
  refine T.loopK [(4, Value.slice ad39 vs.length cap39), (9, Value.int IntKind.i64 (↑w : Int)), (8, Value.int IntKind.i64 (↑vs.length : Int)), (7, Value.pointer (some { block := b7, off := 0 })), (5, Value.slice none 0 0), (0, Value.slice ad (packV vs).length cap)] zq8 (γ := UnpG) (fun g => g.k ≤ Xs.length ∧ g.c = (Xs.length : Int) - g.k ∧ g.z = (lastB 0 (Xs.take g.k) : Int) - 1 ∧ NSl H1 .u8 g.v (gapB vs w (lastB 0 (Xs.take g.k)) (Xs.drop g.k)) ∧ Vec 3 1 (.slice ad39 vs.length cap39) g.lv vs.length (nV .i64 (mendB vs w g.k))) (fun g => [(10, .int .i64 g.c), (6, .int .i64 g.z)]) (fun g => bNumberB b7 g.v :: g.lv) (fun _ => H1) (fun g => Xs.length - g.k) ⟨0, (Xs.length : Int), -1, slV 1 ad17 ((packB (lowBits vs w)).length : Int).toNat (packB (lowBits vs w) ++ gapB vs w 0 Xs).length cap17, lv1⟩ ⟨Nat.zero_le _, by dsimp only; omega, rfl, hsuf.mono hle1, hlv1⟩ zq8 zq23 rfl ?_
  rintro ⟨k, c, z, v, lv⟩ ⟨hk, hc, hz, hg, hlv⟩
  dsimp only at hk hc hz hg hlv ⊢
  by_cases h : k < Xs.length
  · obtain ⟨e, he⟩ : ∃ e, Xs[k]? = some e := ⟨_, List.getElem?_eq_getElem h⟩
    have hek := (List.getElem?_eq_some_iff.1 he).2
    have hdk : Xs.drop k = e :: Xs.drop (k + 1) := by rw [List.drop_eq_getElem_cons h, hek]
    have htk : Xs.take (k + 1) = Xs.take k ++ [e] := by rw [List.take_add_one, he]; rfl
    obtain ⟨L, hL0⟩ : ∃ L, L = lastB 0 (Xs.take k) := ⟨_, rfl⟩
    rw [← hL0] at hg hz
    have hLe : L ≤ e := by
      rw [hL0]
      refine lastB_le (Nat.zero_le _) fun j hj => ?_
      obtain ⟨q, hq, rfl⟩ := List.getElem_of_mem hj
      rw [List.length_take] at hq
      rw [List.getElem_take, ← hek]
      exact (List.pairwise_iff_getElem.1 hpw) q k zO h zO
    have hem : e ∈ exI vs w vs.length := by rw [← hXs]; exact List.mem_of_getElem? he
    obtain ⟨hel, _⟩ := exI_lt hem
    obtain ⟨x, hx⟩ : ∃ x, vs[e]? = some x := ⟨_, List.getElem?_eq_getElem hel⟩
    have hx1 := hb x (List.mem_of_getElem? hx)
    obtain ⟨-, hmg, hms⟩ := mendB_succ vs w (k := k) (e := e) (by rw [← hXs]; exact he)
    rw [hx, Option.getD_some] at hmg hms
    rw [hdk, gapB, hx, Option.getD_some] at hg
    have hrl : (gapB vs w (e + 1) (Xs.drop (k + 1))).length ≤ 10000 := by
      have := gapB_len2 (w := w) hb (Xs.drop (k + 1)) (e + 1) fun j hj => by
        have := (exI_lt (hXs ▸ List.mem_of_mem_drop hj)).1
        omega
      rw [List.length_drop] at this
      omega
    have hq1 := putV_len 2 (show x / 2 ^ w < 128 ^ 3 from Nat.lt_of_le_of_lt (Nat.div_le_self _ _) zO)
    have hn1 := bNumber_fn b7 v (e + 1 - L) 128 _ H1 hg zO zO zD (by rw [List.length_append]; omega)
    have hq : x / 2 ^ w < 65536 := Nat.lt_of_le_of_lt (Nat.div_le_self _ _) hx1
    have hn2 := fun v' (h' : NSl H1 .u8 v' (putV (x / 2 ^ w) ++ gapB vs w (e + 1) (Xs.drop (k + 1)))) => bNumber_fn b7 v' (x / 2 ^ w) (2147483647 / 2 ^ w) _ H1 h' zO (Nat.div_le_div_right zO) (Nat.lt_of_le_of_lt (Nat.div_le_self _ _) zD) zO
    obtain ⟨bq, cq, hve⟩ := hlv.ptr zO
    injection hve with e1 e2 e3
    subst e1 e3
    have hd : decide ((0 : Int) < c) = true := decide_eq_true zO
    refine J6 ?_; refine yq110 ?_; (refine T.callW Wanted.none rfl rfl hn1 zq1 ?_; rintro _ H50 _ _ ⟨rfl, hH50, v50, rfl, hv50⟩; have hH50 := hH50.symm; subst hH50); refine J3 ?_
    rw [show z + ((e + 1 - L : Nat) : Int) = (e : Int) by omega]
    have hd2 : decide ((e : Int) < 0) = false := decide_eq_false zO
    have hd3 : decide ((vs.length : Int) ≤ (e : Int)) = false := decide_eq_false zO
    have hsh := shrW (x := 2147483647) (i := w) zD
    refine J3 ?_; refine yq80 ?_; (refine T.callW Wanted.none rfl rfl (hn2 _ hv50) zq1 ?_; rintro _ H54 _ _ ⟨rfl, hH54, v54, rfl, hv54⟩; have hH54 := hH54.symm; subst hH54); refine J18 ?_; refine yq6 ?_; refine T.skip ?_
    have hld : (nV .i64 (mendB vs w k))[0 + (e : Int).toNat * 1]? = some (.int .i64 ((x % 2 ^ w : Nat) : Int)) := by
      rw [Nat.zero_add, Nat.mul_one, Int.toNat_natCast]
      exact nV_get hmg
    have hqm : x / 2 ^ w * 2 ^ w ≤ x := Nat.div_mul_le_self _ _
    have hsl : shlI .i64 ((x / 2 ^ w : Nat) : Int) (w : Int) = ((x / 2 ^ w * 2 ^ w : Nat) : Int) := by
      have := shl_nat (k := .i64) (a := x / 2 ^ w) (n := w) (by have : IntKind.i64.bits = 64 := rfl; omega) zO
      rwa [Nat.shiftLeft_eq] at this
    have hxm : x % 2 ^ w < 2 ^ 63 := Nat.lt_of_le_of_lt (Nat.mod_le _ _) zO
    have hor : bits .or .i64 ((x % 2 ^ w : Nat) : Int) ((x / 2 ^ w * 2 ^ w : Nat) : Int) = (x : Int) := by
      rw [bor_nat (k := .i64) hxm zO, or_lo _ _ _ (Nat.mod_lt _ (Nat.two_pow_pos w)), mend_or]
    refine T.regionS lv 9 zK ?_; refine yq7 ?_; refine TS.take 2 rfl zK zK zK zK (PV.indexAddr rfl rfl zO) Wanted.none rfl rfl ?_; refine TS.take 3 rfl zK zK zK zK (PV.loadVec rfl zA zq4 zA) Wanted.none rfl rfl ?_; refine TS.take 4 rfl zK zK zK zK (PV.move rfl) Wanted.none rfl rfl ?_; refine TS.take 5 rfl zK zK zK zK (PV.move rfl) Wanted.none rfl rfl ?_; refine TS.take 6 rfl zK zK zK zK (PV.shlR rfl rfl zA zO) Wanted.none rfl rfl ?_; refine TS.take 7 rfl zK zK zK zK (PV.borR rfl rfl zA) Wanted.none rfl rfl ?_; refine TS.take 8 rfl zK zK zK zK (PV.indexAddr rfl rfl zO) Wanted.none rfl rfl ?_
    refine yq68 ?_
    (refine T.storeVecP (lv := lv) Wanted.none rfl rfl rfl hlv (by rw [Nat.zero_add, Nat.mul_one, Int.toNat_natCast, nV_len, mendB_len]; exact hel) zq1 ?_; intro lv3 hv3); refine yq11 ?_; refine J6 ?_
    rw [Nat.zero_add, Nat.mul_one, Int.toNat_natCast, nV_set, ← hms] at hv3
    exact T.nextP ⟨k + 1, c - 1, (e : Int), v54, lv3⟩ ⟨by dsimp only; omega, by dsimp only; omega, by dsimp only; rw [htk, lastB_snoc]; omega, by dsimp only; rw [htk, lastB_snoc]; exact hv54, hv3⟩ zE zq8 zq23 rfl
  · have hd : decide ((0 : Int) < c) = false := decide_eq_false zO
    rw [mendB_all vs w (show (exI vs w vs.length).length ≤ k by rw [← hXs]; omega)] at hlv
    refine T.freezeP hlv zq1 ?_
    intro H2 hle2 hs2
    have hpack := pack_fn vs _ H2 hs2 hl hb
    refine J6 ?_; refine yq6 ?_; refine J4 ?_; (refine T.call Wanted.none rfl rfl hpack ?_; rintro _ H3 hle3 ⟨v78, rfl, hv78⟩); refine J10 ?_
    have heq := bytesEqual_fn (packV vs) v78 _ H3 hv78 (ha.mono (hle1.trans (hle2.trans hle3))) packV_lt
    refine T.callV Wanted.none rfl rfl (heq) ?_; refine J11 ?_
    exact T.retF (Lv.fin (RV.tmp2 rfl rfl rfl) ⟨_, rfl, hs2.mono hle3⟩)

end Go.Proofs.YtecogbhbkccblaaGreatDoor
