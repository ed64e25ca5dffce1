/- checksum: the sum; sealing.
   checksum: sealing and unsealing. -/
import Derived.Test.YtecogbhbkccblaaGreatDoorGT
set_option maxRecDepth 4000
set_option maxHeartbeats 40000000
set_option linter.all false
namespace Go.Proofs.YtecogbhbkccblaaGreatDoor
open Go.RowKit


instance : ArrOf Tryz.prog 199 16 136 1 := ⟨Tryz.underlying199, fun _ => by kernel_rfl⟩
instance : ArrOf Tryz.prog 134 4 5 1 := ⟨Tryz.underlying134, fun _ => by kernel_rfl⟩
theorem shr32 {x i : Nat} (hx : x < 2 ^ 32) : shrI .u32 (x : Int) (i : Int) = ((x / 2 ^ i : Nat) : Int) := by
  have := shr_nat (k := .u32) (a := x) (n := i) hx
  rwa [Nat.shiftRight_eq_div_pow] at this
theorem xor32 {x y : Nat} (hx : x < 2 ^ 32) (hy : y < 2 ^ 32) : bits .xor .u32 (x : Int) (y : Int) = ((x ^^^ y : Nat) : Int) := bxor_nat (k := .u32) hx hy
theorem and32 {x y : Nat} (hx : x < 2 ^ 32) (hy : y < 2 ^ 32) : bits .and .u32 (x : Int) (y : Int) = ((x &&& y : Nat) : Int) := band_nat (k := .u32) hx hy
theorem stepC_fn (v n : Nat) (H : Hp) (hv : v < 2 ^ 32) (hn : n ≤ 1000) : Fn Tryz.prog 122 #[.int .u32 (v : Int), .int .i64 (n : Int)] H (fun u _ => u = .int .u32 (stepC v n : Int)) := by
  refine Fn.of_T (vs := [.int .u32 (v : Int), .int .i64 (n : Int)]) Tryz.func122 rfl rfl fun w => ?_; refine J11 ?_; refine T.loopK [(5, Value.int IntKind.i64 (↑n : Int))] zq8 (γ := Nat) (fun i => i ≤ n) (fun i => [(6, .int .i64 (i : Int)), (0, .int .u32 (stepC v i : Int))]) (fun _ => []) (fun _ => H) (fun i => n - i) 0 (Nat.zero_le _) ⟨rfl, rfl, trivial⟩ zq23 rfl ?_
  rintro i hi
  have hs := stepC_lt hv i
  by_cases h : i < n
  · have hd : decide ((i : Int) < (n : Int)) = true := decide_eq_true zO
    have hand := and32 (x := stepC v i) (y := 1) hs zD
    rw [and_1] at hand
    have hsh := shr32 (x := stepC v i) (i := 1) hs
    rw [Nat.pow_one] at hsh
    have hxor := xor32 (x := stepC v i / 2) (y := 0x82F63B78) zO zD
    by_cases h1 : stepC v i % 2 = 1
    · have hd1 : decide (((stepC v i % 2 : Nat) : Int) = 1) = true := decide_eq_true zO
      have hst : stepC v (i + 1) = (stepC v i / 2) ^^^ 0x82F63B78 := by rw [stepC, stpC, if_pos h1]
      rw [← hst] at hxor
      have hand := hand
      have hsh := hsh
      have hxor := hxor
      refine yq77 ?_; refine yq109 ?_; refine J2 ?_; refine yq9 ?_; refine J2 ?_; refine yq80 ?_; refine sv (PV.bxorR rfl rfl zA) ?_; refine J7 ?_
      exact T.nextP (i + 1) zO zO zq8 zq23 rfl
    · have hd1 : decide (((stepC v i % 2 : Nat) : Int) = 1) = false := decide_eq_false zO
      have hst : stepC v (i + 1) = stepC v i / 2 := by rw [stepC, stpC, if_neg h1]
      rw [← hst] at hsh
      have hand := hand
      have hsh := hsh
      refine yq77 ?_; refine yq109 ?_; refine J2 ?_; refine yq6 ?_; refine J2 ?_; refine yq80 ?_; refine J7 ?_
      exact T.nextP (i + 1) zO zO zq8 zq23 rfl
  · have hd : decide ((i : Int) < (n : Int)) = false := decide_eq_false zO
    obtain rfl : i = n := by omega
    refine yq44 ?_; refine J6 ?_
    exact T.retF (Lv.fin (RV.tmp rfl rfl) rfl)
theorem splice1 (xs : List Value) (v : Value) : ∀ (xs : List Value) (o : Nat), o < xs.length → Splice xs o [v] (xs.set o v) := by
  intro xs
  induction xs with
  | nil => intro o h; simp at h
  | cons u us ih =>
    intro o h
    cases o with
    | zero => exact .cons .nil
    | succ o => exact .skip (ih o (by simpa using h))
/-- the table as it is filled -/
def tabU (i : Nat) : List Nat := tabF 16 (fun j => if j < i then tabC j else 0)
theorem tabU_len (i : Nat) : (tabU i).length = 16 := tabF_len _ _
theorem tabU_all : tabU 16 = tabF 16 tabC := tabF_congr fun i hi => by rw [if_pos hi]
theorem tabU_succ (i : Nat) : (tabU i).set i (tabC i) = tabU (i + 1) := by
  unfold tabU
  rw [tabF_set]
  refine tabF_congr fun j hj => ?_
  by_cases h : j = i
  · subst h; rw [if_pos rfl, if_pos zO]
  · rw [if_neg h]
    by_cases h2 : j < i
    · rw [if_pos h2, if_pos zO]
    · rw [if_neg h2, if_neg zO]
theorem sum_fn (bs : List Nat) (av : Value) (H : Hp) (ha : NSl H .u8 av bs) (hb : ∀ c ∈ bs, c < 256) (hl : bs.length ≤ 1000000000) : Fn Tryz.prog 68 #[av] H (fun u _ => u = .int .u32 (sumC bs : Int)) := by
  obtain ⟨ad, cap, rfl⟩ := ha.len
  refine Fn.of_T (vs := [.slice ad bs.length cap]) Tryz.func68 rfl rfl fun w => ?_; refine J6 ?_; refine sy fun b3 => ?_; refine J7 ?_; refine T.ownEq (l' := [(b3, .cells (nV .u32 (tabU 0)).toArray 199 (0, 0))]) rfl ?_; refine T.loopK [(3, Value.pointer (some { block := b3, off := 0 })), (0, Value.slice ad bs.length cap)] zq8 (γ := Nat) (fun i => i ≤ 16) (fun i => [(8, .int .i64 (i : Int))]) (fun i => [(b3, .cells (nV .u32 (tabU i)).toArray 199 (0, 0))]) (fun _ => H) (fun i => 16 - i) 0 (Nat.zero_le _) ⟨rfl, trivial⟩ zq23 rfl ?_
  rintro i hi
  by_cases h : i < 16
  · have hd : decide ((i : Int) < 16) = true := decide_eq_true zO
    have hst := stepC_fn i 4 H zO zO
    have hst2 : Fn Tryz.prog 122 #[.int .u32 (i : Int), .int .i64 4] H (fun u _ => u = .int .u32 (tabC i : Int)) := hst
    have hsp : Splice (nV .u32 (tabU i)) (0 + (i : Int).toNat * 1) [.int .u32 (tabC i : Int)] (nV .u32 (tabU (i + 1))) := by
      have := splice1 [] (.int .u32 (tabC i : Int)) (nV .u32 (tabU i)) i (by rw [nV_len, tabU_len]; exact h)
      rw [nV_set, tabU_succ] at this
      rw [Nat.zero_add, Nat.mul_one]
      exact this
    refine yq31 ?_; refine J11 ?_; refine yq42 ?_; refine T.callV Wanted.none rfl rfl (hst2) ?_; refine sv (PV.indexArrG rfl rfl zO) ?_; refine T.store1 Wanted.none rfl rfl rfl .head hsp ?_; refine J6 ?_
    exact T.nextP (i + 1) zO zO zq8 zq23 rfl
  · have hd : decide ((i : Int) < 16) = false := decide_eq_false zO
    obtain rfl : i = 16 := by omega
    refine J19 ?_; refine T.loopK [(18, Value.int IntKind.i64 (↑bs.length : Int)), (17, Value.slice ad bs.length cap), (3, Value.pointer (some { block := b3, off := 0 }))] zq8 (γ := Nat) (fun i => i ≤ bs.length) (fun i => [(19, .int .i64 (i : Int)), (5, .int .u32 (crcC (bs.take i) : Int))]) (fun _ => [(b3, .cells (nV .u32 (tabU 16)).toArray 199 (0, 0))]) (fun _ => H) (fun i => bs.length - i) 0 (Nat.zero_le _) ⟨rfl, rfl, trivial⟩ zq23 rfl ?_
    rintro j hj
    have hcl := crcC_lt (l := bs.take j) fun c hc => hb c (List.mem_of_mem_take hc)
    by_cases h2 : j < bs.length
    · have hd2 : decide ((j : Int) < (bs.length : Int)) = true := decide_eq_true zO
      obtain ⟨c, hc⟩ : ∃ c, bs[j]? = some c := ⟨_, List.getElem?_eq_getElem h2⟩
      have hc1 := hb c (List.mem_of_getElem? hc)
      obtain ⟨b, off, rfl, hsub⟩ := NSl.at ha hc
      obtain ⟨v1, hv1⟩ : ∃ v1, v1 = crcC (bs.take j) ^^^ c := ⟨_, rfl⟩
      have hv1l : v1 < 2 ^ 32 := by rw [hv1]; exact Nat.xor_lt_two_pow hcl zO
      obtain ⟨v2, hv2⟩ : ∃ v2, v2 = nibC v1 := ⟨_, rfl⟩
      have hv2l : v2 < 2 ^ 32 := by rw [hv2]; exact nibC_lt hv1l
      have hnext : crcC (bs.take (j + 1)) = nibC v2 := by
        rw [List.take_add_one, hc]
        show crcC (bs.take j ++ [c]) = _
        rw [crcC_snoc, byteC, ← hv1, hv2]
      have hld : ∀ v : Nat, (nV .u32 (tabU 16))[0 + ((v % 16 : Nat) : Int).toNat * 1]? = some (.int .u32 (tabC (v % 16) : Int)) := fun v => by
        rw [Nat.zero_add, Nat.mul_one, Int.toNat_natCast, tabU_all]
        exact nV_get (tabF_get _ (Nat.mod_lt _ zD))
      have hld1 := hld v1
      have hld2 := hld v2
      have hx1 := xor32 hcl (show c < 2 ^ 32 by omega)
      rw [← hv1] at hx1
      have hs1 := shr32 (i := 4) hv1l
      have hs2 := shr32 (i := 4) hv2l
      have ha1 := and32 (y := 15) hv1l zD
      have ha2 := and32 (y := 15) hv2l zD
      rw [and_15] at ha1 ha2
      have hy1 := xor32 (x := v1 / 2 ^ 4) (y := tabC (v1 % 16)) zO (tabC_lt (Nat.mod_lt _ zD))
      have hy2 := xor32 (x := v2 / 2 ^ 4) (y := tabC (v2 % 16)) zO (tabC_lt (Nat.mod_lt _ zD))
      rw [show v1 / 2 ^ 4 ^^^ tabC (v1 % 16) = v2 by rw [hv2]; rfl] at hy1
      rw [show v2 / 2 ^ 4 ^^^ tabC (v2 % 16) = crcC (bs.take (j + 1)) by rw [hnext]; rfl] at hy2
      refine yq94 ?_; refine J6 ?_; refine yq42 ?_; refine sv (PV.bxorR rfl rfl zA) ?_; refine J5 ?_; refine yq80 ?_; refine sm ?_; refine yq109 ?_; refine sv (PV.indexArrG rfl rfl zO) ?_; refine yq43 ?_; refine sv (PV.bxorR rfl rfl zA) ?_; refine J4 ?_; refine yq80 ?_; refine sm ?_; refine yq109 ?_; refine sv (PV.indexArrG rfl rfl zO) ?_; refine yq43 ?_; refine sv (PV.bxorR rfl rfl zA) ?_; refine J5 ?_
      refine J2 ?_
      exact T.nextP (j + 1) zO zO zq8 zq23 rfl
    · have hd2 : decide ((j : Int) < (bs.length : Int)) = false := decide_eq_false zO
      obtain rfl : j = bs.length := by omega
      rw [List.take_length] at hcl ⊢
      refine yq44 ?_; refine J4 ?_; (refine sv (PV.compl32 rfl hcl) ?_ /-T.none-/); refine J2 ?_
      exact T.retF (Lv.fin (RV.tmp rfl rfl) rfl)

end Go.Proofs.YtecogbhbkccblaaGreatDoor
namespace Go.Proofs.YtecogbhbkccblaaGreatDoor
open Go.RowKit


def fourV (s : Nat) : List Value := [.int .u8 ((s % 256 : Nat) : Int), .int .u8 ((s / 256 % 256 : Nat) : Int), .int .u8 ((s / 65536 % 256 : Nat) : Int), .int .u8 ((s / 16777216 % 256 : Nat) : Int)]
theorem fourV_eq (s : Nat) : nV .u8 (fourC s) = fourV s := rfl
section
variable {P : Program} {e : Env} {l : List (Nat × Obj)} {H : Hp} {dst : Option Tmp} {ty : TypeId} {pos : String} {after : Array Edge} {gd : Option (Nat × Bool)}
theorem PV.build4 {t el : Nat} [h : ArrOf P t 4 el 1] {z : List Value} [hz : ZeroOf P t z] (hzl : z.length = 4) {ps : List (Nat × Operand)} {k : IntKind} {a b c d : Int} (hp : evParts e ps = some [(0, .int k a), (1, .int k b), (2, .int k c), (3, .int k d)]) :
    PV P e l H ⟨dst, .build t ps.toArray, ty, pos, after, gd⟩ (.agg #[.int k a, .int k b, .int k c, .int k d]) := PV.mk fun X D ac w ha hw => by
  have h1 : (ps.toArray.map fun (p : Nat × Operand) => (p.1, ac.eval p.2)) = #[(0, .int k a), (1, .int k b), (2, .int k c), (3, .int k d)] := by rw [← evParts_map ha ps _ hp]; simp
  obtain ⟨zv, hz1, hz2⟩ := hz.h
  match z, hzl with
  | [z0, z1, z2, z3], _ =>
    simp only [execOp, Sem.run_bind, Sem.run_pure]
    rw [h1]
    have hf : Instr.fill (fun i => some (i * 1, 1)) #[z0, z1, z2, z3] [(0, .int k a), (1, .int k b), (2, .int k c), (3, .int k d)] = some #[.int k a, .int k b, .int k c, .int k d] := by simp [Instr.fill, Value.cells]
    simp [Instr.build, hz1, hz2, run_underlying h.h, h.s]
    simp only [Nat.mul_one] at hf
    simp [hf]
end
theorem sumC_lt (bs : List Nat) : sumC bs < 2 ^ 32 := by unfold sumC; omega
theorem bytesOf_fn (s : Nat) (H : Hp) (hs : s < 2 ^ 32) : Fn Tryz.prog 67 #[.int .u32 (s : Int)] H (fun u _ => u = .agg (fourV s).toArray) := by
  refine Fn.of_T (vs := [.int .u32 (s : Int)]) Tryz.func67 rfl rfl fun w => ?_
  have h1 := shr32 (i := 8) hs
  have h2 := shr32 (i := 16) hs
  have h3 := shr32 (i := 24) hs
  have w0 := wrap8 s
  have w1 := wrap8 (s / 2 ^ 8)
  have w2 := wrap8 (s / 2 ^ 16)
  have w3 := wrap8 (s / 2 ^ 24)
  refine zs3 ?_; refine sy fun b2 => ?_; refine J4 ?_; refine sv (PV.convKR rfl zA) ?_; refine sm ?_; refine yq80 ?_; refine sv (PV.convKR rfl zA) ?_; refine sm ?_; refine yq80 ?_; refine sv (PV.convKR rfl zA) ?_; refine sm ?_; refine yq80 ?_; refine yq42 ?_; refine sv (PV.build4 rfl rfl) ?_; refine yq2 ?_; refine so ?_
  refine T.retF (Lv.fin (RV.cell rfl zq7) ?_)
  rw [show s / 2 ^ 24 = s / 16777216 % 256 by omega]
  rfl
theorem seal_fn (bs : List Nat) (av : Value) (H : Hp) (ha : NSl H .u8 av bs) (hb : ∀ c ∈ bs, c < 256) (hl : bs.length ≤ 1000000000) : Fn Tryz.prog 38 #[av] H (fun u H' => NSl H' .u8 u (sealC bs)) := by
  obtain ⟨ad, cap, rfl⟩ := ha.len
  have hcap := SlR.cap ha
  have hsum := sum_fn bs _ H ha hb hl
  have hby := bytesOf_fn (sumC bs) H (sumC_lt bs)
  refine Fn.of_T (vs := [.slice ad bs.length cap]) Tryz.func38 rfl rfl fun w => ?_; refine J7 ?_; refine T.callV Wanted.none rfl rfl (hsum) ?_; refine T.callV Wanted.none rfl rfl (hby) ?_; refine sy fun b3 => ?_; refine yq2 ?_; refine so ?_
  (repeat refine sq ?_)
  refine T.regionO [] zK ?_
  have hfull : SlR H 1 (.slice ad bs.length bs.length) bs.length (nV .u8 bs) := by
    refine ⟨ha.1, ?_⟩
    rcases ha.2 with ⟨_, h0⟩ | ⟨b, off, c, cs, t, fz, he, h2, h3, h4⟩
    · exact .inl ⟨⟨ad, bs.length, by rw [h0]⟩, h0⟩
    · injection he with e1 e2 e3
      exact .inr ⟨b, off, bs.length, cs, t, fz, by rw [e1], h2, h3, Nat.le_refl _⟩
  refine yq3 ?_; refine TO.take 2 rfl zK zK zK (PV.lenSl rfl) Wanted.none rfl rfl ?_; refine yq22 ?_; refine TO.take 4 rfl zK zK zK (PV.lenSl rfl) Wanted.none rfl rfl ?_; refine TO.take 5 rfl zK zK zK (PV.sliceHM rfl rfl rfl zO) Wanted.none rfl rfl ?_; refine TO.take 6 rfl zK zK zK (PV.sliceArr rfl) Wanted.none rfl rfl ?_; refine TO.step 7 rfl zK zq4 zq19 ?_; (refine T.appendFull Wanted.none rfl rfl rfl hfull.src (Src.cells (m := 4) (ys := fourV (sumC bs)) (.own zq2) rfl rfl) zO zO ?_; intro v14 lv14 hv14); refine yq30 ?_; refine TO.take 8 rfl zK zK zK (PV.assign rfl) Wanted.none rfl rfl ?_; refine yq37 ?_; refine T.freezeP hv14 zq1 ?_
  intro H2 _ hs2
  exact T.retF (Lv.fin (RV.tmp rfl rfl) (by
    unfold NSl sealC
    rw [List.length_append, nV_app]
    exact hs2))
theorem unseal_fn (bs : List Nat) (av : Value) (H : Hp) (ha : NSl H .u8 av (sealC bs)) (hb : ∀ c ∈ bs, c < 256) (hl : bs.length ≤ 1000000000) : Fn Tryz.prog 32 #[av] H (fun u H' => ∃ v, u = .tuple #[v, .int .i64 0] ∧ NSl H' .u8 v bs) := by
  obtain ⟨ad, cap, rfl⟩ := ha.len
  have hcap := SlR.cap ha
  have hsl := sealC_len bs
  have hget : (sealC bs)[bs.length]? = some (sumC bs % 256) := by
    unfold sealC
    rw [List.getElem?_append_right (Nat.le_refl _), Nat.sub_self]; rfl
  obtain ⟨b, off, rfl, _⟩ := NSl.at ha hget
  have hsub : SubC H b (off + bs.length * 1) (fourV (sumC bs)) := by
    have := NSl.sub ha (lo := bs.length) (m := 4) zO zO
    rw [show ((sealC bs).drop bs.length).take 4 = fourC (sumC bs) by unfold sealC; rw [List.drop_left]; rfl, fourV_eq] at this
    exact this
  have hpre : NSl H .u8 (.slice (some ⟨b, off, none⟩) bs.length cap) bs := by
    have := SlR.pre ha (hi := bs.length) zO
    rw [Nat.mul_one, nV_take] at this
    unfold sealC at this
    rw [List.take_left] at this
    exact this
  have hsum := sum_fn bs _ H hpre hb hl
  have hby := bytesOf_fn (sumC bs) H (sumC_lt bs)
  refine Fn.of_T (vs := [.slice (some ⟨b, off, none⟩) (sealC bs).length cap]) Tryz.func32 rfl rfl fun w => ?_
  have h4 : decide (((sealC bs).length : Int) < 4) = false := decide_eq_false zO
  refine J12 ?_; refine yq6 ?_; refine J8 ?_
  rw [show ((sealC bs).length : Int) - 4 = (bs.length : Int) by omega]
  (repeat refine sq ?_)
  have hble : Nat.ble 4 ((sealC bs).length - ((bs.length : Nat) : Int).toNat) = true := by
    rw [Int.toNat_natCast]
    exact Nat.ble_eq_true_of_le zO
  refine T.regionO [] zK ?_; refine yq3 ?_; refine TO.take 2 rfl zK zK zK (PV.sliceH rfl rfl zO) Wanted.none rfl rfl ?_; refine yq12 ?_; refine TO.take 7 rfl zK zK zK (PV.sliceLP rfl rfl zO) Wanted.none rfl rfl ?_; refine TO.take 8 rfl zK zK zK (PV.arrPtr rfl (by first | exact rfl | assumption)) Wanted.none rfl rfl ?_; refine TO.take 9 rfl zK zK zK (PV.loadSubAll rfl zA zX) Wanted.none rfl rfl ?_; refine TO.step 3 rfl zK zq4 zq19 ?_; refine T.callV Wanted.none rfl rfl (hsum) ?_; refine yq30 ?_; refine TO.step 4 rfl zK zq4 zq19 ?_; refine T.callV Wanted.none rfl rfl (hby) ?_; refine yq30 ?_; refine TO.step 10 rfl zK zq4 zq19 ?_; (refine sv (PV.arrSame4 zK zK rfl rfl) ?_ /-T.none-/); refine yq30 ?_; refine yq37 ?_; refine J4 ?_; (refine T.buildSlice Wanted.none rfl rfl zq11 zX zX ?_; intro b22); refine J2 ?_; refine sv (PV.sliceH rfl rfl zO) ?_; (refine T.appendP (lv := []) Wanted.none rfl rfl rfl (Vec.empty 5 1 _) hpre.src (nV_one _ _) zO zq1 ?_; intro v26 lv26 hv26 _; rw [Nat.zero_add, List.nil_append] at hv26); refine J3 ?_; refine T.freezeP hv26 zq1 ?_
  intro H2 _ hs2
  exact T.retF (Lv.fin (RV.tmp2 rfl rfl rfl) ⟨v26, rfl, hs2⟩)

end Go.Proofs.YtecogbhbkccblaaGreatDoor
