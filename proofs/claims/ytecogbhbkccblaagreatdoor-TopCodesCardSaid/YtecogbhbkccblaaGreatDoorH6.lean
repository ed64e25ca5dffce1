/- tokens: the payload of a packed stream.
   tokens: the payload of a coded stream; Encode.
   tokens: Build; a block's numbers; At. -/
import Derived.Test.YtecogbhbkccblaaGreatDoorH5
set_option maxRecDepth 4000
set_option maxHeartbeats 40000000
set_option linter.all false
namespace Go.Proofs.YtecogbhbkccblaaGreatDoor
open Go.RowKit


theorem packV_len {vs : List Nat} (hb : ∀ v ∈ vs, v < 65536) (hl : vs.length ≤ 128) : (packV vs).length ≤ 2000 := by
  have hw := bestB_le vs 31
  unfold packV encB
  generalize hwe : bestB vs 32 = w
  rw [hwe] at hw
  have hgl := gapB_len (vs := vs) (w := w) (i := vs.length) hb hl
  have hxl := exI_len vs w vs.length
  have hp1 := putV_len 2 (show vs.length < 128 ^ 3 by omega)
  have hp2 := putV_len 2 (show w < 128 ^ 3 by omega)
  have hp3 := putV_len 2 (show (exI vs w vs.length).length < 128 ^ 3 by omega)
  have hm : vs.length * w ≤ 128 * 31 := Nat.mul_le_mul hl hw
  simp only [List.length_append, packB_len, lowBits_len]
  omega
/-- a block as it is written -/
def blK (kd : Nat) (ns c : List Nat) : List Nat := if kd = 0 then putV (packV c).length ++ packV c else putV (symBits (fS ns) (oS ns) c).length ++ packB (symBits (fS ns) (oS ns) c)
structure PlG where
  k : Nat
  v : Value
  lv : List (Nat × Obj)
theorem bl0_len {ns : List Nat} (hb : ∀ v ∈ ns, v < 65536) {k : Nat} (hk : k < (ns.length + 63) / 64) : (packV (chunk ns k)).length ≤ 2000 ∧ (blK 0 ns (chunk ns k)).length ≤ 2003 := by
  have hcl := chunk_len ns hk
  have h1 := packV_len (vs := chunk ns k) (fun v hv => hb v (chunk_mem hv)) zO
  refine ⟨h1, ?_⟩
  unfold blK
  rw [if_pos rfl, List.length_append]
  have := putV_len 2 (show (packV (chunk ns k)).length < 128 ^ 3 by omega)
  omega
theorem bl_take {kd : Nat} {ns : List Nat} {B : Nat} (h : ∀ k, k < (ns.length + 63) / 64 → (blK kd ns (chunk ns k)).length ≤ B) : ∀ k, k ≤ (chunks ns).length → (((chunks ns).take k).flatMap (blK kd ns)).length ≤ B * k
  | 0, _ => by simp
  | k + 1, hk => by
    rw [chunks_len] at hk
    rw [chunks_take zO, List.flatMap_append, List.length_append]
    have ih := bl_take h k (by rw [chunks_len]; omega)
    have h1 := h k zO
    simp only [List.flatMap_cons, List.flatMap_nil, List.append_nil]
    rw [Nat.mul_succ]
    omega
theorem lenQ : ∀ x : Value × Nat, (enQ x).length = 2 := fun _ => rfl
theorem pay0_fn (ns : List Nat) (sb : Nat) (lv bv : Value) (es : List (Value × Nat)) (last : Nat) (blk : Value) (H : Hp) (hs : StrOk H sb 0 ns lv bv es last blk) (hl : ns.length ≤ 4096) (hb : ∀ v ∈ ns, v < 1000) : FnW Tryz.prog 31 #[.pointer (some ⟨sb, 0, none⟩)] H [StB sb ns.length 0 lv bv last blk] (fun u H' l' => H.le H' ∧ l' = [StB sb ns.length 0 lv bv last blk] ∧ NSl H' .u8 u (payP ns)) := by
  obtain ⟨hlen, hrow, hpts, hblk⟩ := hs
  obtain ⟨al, cl, rfl⟩ := hlen.len
  obtain ⟨ab, cb, rfl⟩ := hrow.len
  have hb16 : ∀ v ∈ ns, v < 65536 := fun v hv => by have := hb v hv; omega
  have hel := hpts.1
  have hlc := chunks_len ns
  rw [List.length_map] at hel
  have hp1 := putV_len 2 (show ns.length < 128 ^ 3 by omega)
  have hp2 := putV_len 2 (show 0 < 128 ^ 3 by omega)
  refine FnW.of_T (vs := [.pointer (some ⟨sb, 0, none⟩)]) Tryz.func31 rfl rfl fun w => ?_; refine J10 ?_; refine yq42 ?_; (refine T.callW Wanted.none rfl rfl (putUvarint_fn (.slice none 0 0) [] [] ns.length _ (NRow.nil _ _) zO zD) Pick.nil ?_; rintro v13 H13 le13 _ ⟨hH13, he13⟩; have hH13 := hH13.symm; subst hH13; rw [List.nil_append] at he13; obtain ⟨ad13, cap13, rfl⟩ := he13.val); refine J9 ?_; refine yq42 ?_; (refine T.callW Wanted.none rfl rfl (putUvarint_fn _ le13 _ 0 _ he13 zO zO) zq1 ?_; rintro v20 H20 le20 _ ⟨hH20, he20⟩; have hH20 := hH20.symm; subst hH20; obtain ⟨ad20, cap20, rfl⟩ := he20.val); refine J23 ?_
  refine T.block ?_
  obtain ⟨hd2, hhd⟩ : ∃ x, x = putV ns.length ++ putV 0 := ⟨_, rfl⟩
  have hhl : hd2.length ≤ 6 := by rw [hhd, List.length_append]; omega
  rw [← hhd] at he20 ⊢
  have hbt := bl_take (kd := 0) (ns := ns) (B := 2003) (fun k hk => (bl0_len hb16 hk).2)
  refine T.loopK [(53, Value.int IntKind.i64 (↑es.length : Int)), (52, Value.slice ab es.length cb), (0, Value.pointer (some { block := sb, off := 0 }))] zq8 (γ := PlG) (fun g => g.k ≤ (chunks ns).length ∧ NRow 5 .u8 g.v g.lv (hd2 ++ ((chunks ns).take g.k).flatMap (blK 0 ns))) (fun g => [(54, .int .i64 (g.k : Int)), (3, g.v)]) (fun g => StB sb ns.length 0 (.slice al (lnK 0 ns).length cl) (.slice ab es.length cb) last blk :: g.lv) (fun _ => H) (fun g => (chunks ns).length - g.k) ⟨0, _, le20⟩ ⟨Nat.zero_le _, by rw [List.take_zero, List.flatMap_nil, List.append_nil]; exact he20⟩ zq8 zq23 rfl ?_
  rintro ⟨k, v, lv⟩ ⟨hk, hv⟩
  dsimp only at hk hv ⊢
  have hbk := hbt k hk
  obtain ⟨row, hr⟩ : ∃ row, row = hd2 ++ ((chunks ns).take k).flatMap (blK 0 ns) := ⟨_, rfl⟩
  have hrl : row.length ≤ 6 + 2003 * k := by rw [hr, List.length_append]; omega
  rw [← hr] at hv
  obtain ⟨av, cv, rfl⟩ := hv.val
  by_cases h : k < (chunks ns).length
  · have hch := chunks_get (ns := ns) (k := k) zO
    obtain ⟨vb, hve, hvb⟩ := hpts.2 k (ptK 0 ns (chunk ns k)) (by rw [List.getElem?_map, hch]; rfl)
    have hvb : NSl H .u8 vb (packV (chunk ns k)) := hvb
    have hve : es[k]? = some (vb, 0) := hve
    obtain ⟨avb, cvb, rfl⟩ := hvb.len
    obtain ⟨b, off, rfl, hsub⟩ := RowL.at lenQ hrow hve
    obtain ⟨hl1, hl2⟩ := bl0_len (ns := ns) (k := k) hb16 zO
    have hp3 := putV_len 2 (show (packV (chunk ns k)).length < 128 ^ 3 by omega)
    have hd : decide ((k : Int) < (es.length : Int)) = true := decide_eq_true zO
    refine yq77 ?_; refine yq20 ?_; refine sy fun b7 => ?_; refine yq2 ?_; refine J16 ?_; refine yq42 ?_; (refine T.callW Wanted.none rfl rfl (putUvarint_fn _ lv _ (packV (chunk ns k)).length _ hv zO zO) zq1 ?_; rintro v68 H68 le68 _ ⟨hH68, he68⟩; have hH68 := hH68.symm; subst hH68; obtain ⟨ad68, cap68, rfl⟩ := he68.val); refine J6 ?_; (refine T.appendP (lv := le68) Wanted.none rfl rfl rfl he68 hvb.src (nV_one _ _) (by rw [List.length_append]; omega) zq1 ?_; intro v77 lv77 hv77 _; have hv77 := NRow.app hv77; obtain ⟨ad77, cap77, rfl⟩ := hv77.val); refine J4 ?_
    refine J3 ?_
    have hst : hd2 ++ ((chunks ns).take (k + 1)).flatMap (blK 0 ns) = row ++ putV (packV (chunk ns k)).length ++ packV (chunk ns k) := by
      rw [List.take_add_one, hch, List.flatMap_append, ← List.append_assoc, ← hr, List.append_assoc]
      simp only [Option.toList_some, List.flatMap_cons, List.flatMap_nil, List.append_nil]
      rfl
    exact T.nextP ⟨k + 1, .slice ad77 (row ++ putV (packV (chunk ns k)).length ++ packV (chunk ns k)).length cap77, lv77⟩ ⟨by dsimp only; omega, by dsimp only; rw [hst]; exact hv77⟩ zE zq8 zq23 rfl
  · have hd : decide ((k : Int) < (es.length : Int)) = false := decide_eq_false zO
    obtain rfl : k = (chunks ns).length := by omega
    refine yq44 ?_; refine J6 ?_; refine T.freezeP hv zq1 ?_
    intro H2 hle2 hs2
    refine T.retW (Lv.finW [StB sb ns.length 0 (.slice al (lnK 0 ns).length cl) (.slice ab es.length cb) last blk] zq4 (RV.tmp rfl rfl) ⟨hle2, rfl, ?_⟩)
    rw [show payP ns = row by rw [hr, List.take_length, hhd, List.append_assoc]; rfl]
    exact hs2

end Go.Proofs.YtecogbhbkccblaaGreatDoor
namespace Go.Proofs.YtecogbhbkccblaaGreatDoor
open Go.RowKit


theorem bl1_len {ns : List Nat} (hb : ∀ v ∈ ns, v < 1000) {k : Nat} (hk : k < (ns.length + 63) / 64) : (symBits (fS ns) (oS ns) (chunk ns k)).length ≤ 960 ∧ (blK 1 ns (chunk ns k)).length ≤ 200 := by
  have hcl := chunk_len ns hk
  have h1 := symBits_len (f := fS ns) (o := oS ns) (chunk ns k) (fun s _ => fS_le (B := 1000) zD hb s)
  have h2 : (symBits (fS ns) (oS ns) (chunk ns k)).length ≤ 960 := by omega
  refine ⟨h2, ?_⟩
  unfold blK
  rw [if_neg zD, List.length_append, packB_len]
  have := putV_len 2 (show (symBits (fS ns) (oS ns) (chunk ns k)).length < 128 ^ 3 by omega)
  omega
theorem pay1_fn (ns : List Nat) (sb : Nat) (lv bv : Value) (es : List (Value × Nat)) (last : Nat) (blk : Value) (H : Hp) (hs : StrOk H sb 1 ns lv bv es last blk) (hl : ns.length ≤ 4096) (hb : ∀ v ∈ ns, v < 1000) : FnW Tryz.prog 31 #[.pointer (some ⟨sb, 0, none⟩)] H [StB sb ns.length 1 lv bv last blk] (fun u H' l' => H.le H' ∧ l' = [StB sb ns.length 1 lv bv last blk] ∧ NSl H' .u8 u (payC ns)) := by
  obtain ⟨hlen, hrow, hpts, hblk⟩ := hs
  have hlk : lnK 1 ns = tabF (cntsS ns).length (fS ns) := rfl
  rw [hlk] at hlen
  obtain ⟨L, hL⟩ : ∃ L, L = tabF (cntsS ns).length (fS ns) := ⟨_, rfl⟩
  rw [← hL] at hlen
  have hLl : L.length = (cntsS ns).length := by rw [hL, tabF_len]
  have hcn : (cntsS ns).length ≤ 1000 := by rw [cntsS_len]; exact mxS_le hb
  have hLx : ∀ x ∈ L, x ≤ 15 := fun x hx => by
    rw [hL] at hx
    obtain ⟨s, _, rfl⟩ := List.mem_map.1 hx
    exact fS_le (B := 1000) zD hb s
  obtain ⟨al, cl, rfl⟩ := hlen.len
  obtain ⟨ab, cb, rfl⟩ := hrow.len
  have hel := hpts.1
  have hlc := chunks_len ns
  rw [List.length_map] at hel
  have hp1 := putV_len 2 (show ns.length < 128 ^ 3 by omega)
  have hp2 := putV_len 2 (show 1 < 128 ^ 3 by omega)
  have hp4 := putV_len 2 (show L.length < 128 ^ 3 by omega)
  refine FnW.of_T (vs := [.pointer (some ⟨sb, 0, none⟩)]) Tryz.func31 rfl rfl fun w => ?_; refine J10 ?_; refine yq42 ?_; (refine T.callW Wanted.none rfl rfl (putUvarint_fn (.slice none 0 0) [] [] ns.length _ (NRow.nil _ _) zO zD) Pick.nil ?_; rintro v13 H13 le13 _ ⟨hH13, he13⟩; have hH13 := hH13.symm; subst hH13; rw [List.nil_append] at he13; obtain ⟨ad13, cap13, rfl⟩ := he13.val); refine J9 ?_; refine yq42 ?_; (refine T.callW Wanted.none rfl rfl (putUvarint_fn _ le13 _ 1 _ he13 zO zO) zq1 ?_; rintro v20 H20 le20 _ ⟨hH20, he20⟩; have hH20 := hH20.symm; subst hH20; obtain ⟨ad20, cap20, rfl⟩ := he20.val); refine J20 ?_; refine yq42 ?_; (refine T.callW Wanted.none rfl rfl (putUvarint_fn _ le20 _ L.length _ he20 zO (by rw [List.length_append]; omega)) zq1 ?_; rintro v33 H33 le33 _ ⟨hH33, he33⟩; have hH33 := hH33.symm; subst hH33; obtain ⟨ad33, cap33, rfl⟩ := he33.val); refine sa ?_
  refine J11 ?_
  obtain ⟨hd1, hhd⟩ : ∃ x, x = putV ns.length ++ putV 1 ++ putV L.length := ⟨_, rfl⟩
  have hhl : hd1.length ≤ 9 := by rw [hhd, List.length_append, List.length_append]; omega
  rw [← hhd] at he33 ⊢
  refine T.loopK [(38, Value.int IntKind.i64 (↑L.length : Int)), (37, Value.slice al L.length cl), (0, Value.pointer (some { block := sb, off := 0 }))] zq8 (γ := PlG) (fun g => g.k ≤ L.length ∧ NRow 5 .u8 g.v g.lv (hd1 ++ L.take g.k)) (fun g => [(39, .int .i64 (g.k : Int)), (3, g.v)]) (fun g => StB sb ns.length 1 (.slice al L.length cl) (.slice ab es.length cb) last blk :: g.lv) (fun _ => H) (fun g => L.length - g.k) ⟨0, _, le33⟩ ⟨Nat.zero_le _, by rw [List.take_zero, List.append_nil]; exact he33⟩ zq8 zq23 rfl ?_
  rintro ⟨k, v, lv⟩ ⟨hk, hv⟩
  dsimp only at hk hv ⊢
  obtain ⟨row, hr⟩ : ∃ row, row = hd1 ++ L.take k := ⟨_, rfl⟩
  have hrl : row.length ≤ 9 + k := by rw [hr, List.length_append, List.length_take]; omega
  rw [← hr] at hv
  obtain ⟨av, cv, rfl⟩ := hv.val
  by_cases h : k < L.length
  · obtain ⟨x, hx⟩ : ∃ x, L[k]? = some x := ⟨_, List.getElem?_eq_getElem h⟩
    have hx15 := hLx x (List.mem_of_getElem? hx)
    obtain ⟨b, off, rfl, hsub⟩ := NSl.at hlen hx
    have hd : decide ((k : Int) < (L.length : Int)) = true := decide_eq_true zO
    refine yq94 ?_; refine J5 ?_; refine yq42 ?_; (refine T.buildSlice Wanted.none rfl rfl zq11 zX zX ?_; intro b46); (refine T.appendP (lv := lv) Wanted.none rfl rfl rfl hv (Src.cells (m := 1) (ys := nV .u8 [x]) (.own zq2) rfl rfl) (nV_one _ _) zO zq1 ?_; intro v47 lv47 hv47 _; have hv47 := NRow.app hv47; obtain ⟨ad47, cap47, rfl⟩ := hv47.val); refine J7 ?_
    have hst : hd1 ++ L.take (k + 1) = row ++ [x] := by
      rw [List.take_add_one, hx, ← List.append_assoc, ← hr]; rfl
    exact T.nextP ⟨k + 1, .slice ad47 (row ++ [x]).length cap47, lv47⟩ ⟨by dsimp only; omega, by dsimp only; rw [hst]; exact hv47⟩ zE zq8 zq23 rfl
  · have hd : decide ((k : Int) < (L.length : Int)) = false := decide_eq_false zO
    obtain rfl : k = L.length := by omega
    rw [List.take_length] at hr
    have hbt := bl_take (kd := 1) (ns := ns) (B := 200) (fun k hk => (bl1_len hb hk).2)
    refine yq44 ?_; refine J12 ?_; refine T.loopK [(53, Value.int IntKind.i64 (↑es.length : Int)), (52, Value.slice ab es.length cb), (0, Value.pointer (some { block := sb, off := 0 }))] zq8 (γ := PlG) (fun g => g.k ≤ (chunks ns).length ∧ NRow 5 .u8 g.v g.lv (row ++ ((chunks ns).take g.k).flatMap (blK 1 ns))) (fun g => [(54, .int .i64 (g.k : Int)), (3, g.v)]) (fun g => StB sb ns.length 1 (.slice al L.length cl) (.slice ab es.length cb) last blk :: g.lv) (fun _ => H) (fun g => (chunks ns).length - g.k) ⟨0, _, lv⟩ ⟨Nat.zero_le _, by rw [List.take_zero, List.flatMap_nil, List.append_nil]; exact hv⟩ zq8 zq23 rfl ?_
    rintro ⟨k, v, lv⟩ ⟨hk, hv⟩
    dsimp only at hk hv ⊢
    have hbk := hbt k hk
    obtain ⟨rw2, hr2⟩ : ∃ rw2, rw2 = row ++ ((chunks ns).take k).flatMap (blK 1 ns) := ⟨_, rfl⟩
    have hrl2 : rw2.length ≤ 1100 + 200 * k := by rw [hr2, List.length_append]; omega
    rw [← hr2] at hv
    obtain ⟨av, cv, rfl⟩ := hv.val
    by_cases h : k < (chunks ns).length
    · have hch := chunks_get (ns := ns) (k := k) zO
      obtain ⟨B, hB⟩ : ∃ B, B = symBits (fS ns) (oS ns) (chunk ns k) := ⟨_, rfl⟩
      obtain ⟨vb, hve, hvb⟩ := hpts.2 k (ptK 1 ns (chunk ns k)) (by rw [List.getElem?_map, hch]; rfl)
      have hvb : NSl H .u8 vb (packB B) := hB ▸ hvb
      have hve : es[k]? = some (vb, B.length) := hB ▸ hve
      obtain ⟨avb, cvb, rfl⟩ := hvb.len
      obtain ⟨b, off, rfl, hsub⟩ := RowL.at lenQ hrow hve
      obtain ⟨hl1, hl2⟩ := bl1_len (ns := ns) (k := k) hb zO
      rw [← hB] at hl1
      have hp3 := putV_len 2 (show B.length < 128 ^ 3 by omega)
      have hpk := packB_len B
      have hd : decide ((k : Int) < (es.length : Int)) = true := decide_eq_true zO
      refine yq77 ?_; refine yq20 ?_; refine sy fun b7 => ?_; refine yq2 ?_; refine J15 ?_; refine yq42 ?_; (refine T.callW Wanted.none rfl rfl (putUvarint_fn _ lv _ B.length _ hv zO zO) zq1 ?_; rintro v73 H73 le73 _ ⟨hH73, he73⟩; have hH73 := hH73.symm; subst hH73; obtain ⟨ad73, cap73, rfl⟩ := he73.val); refine J6 ?_; (refine T.appendP (lv := le73) Wanted.none rfl rfl rfl he73 hvb.src (nV_one _ _) (by rw [List.length_append]; omega) zq1 ?_; intro v77 lv77 hv77 _; have hv77 := NRow.app hv77; obtain ⟨ad77, cap77, rfl⟩ := hv77.val); refine J5 ?_
      refine J2 ?_
      have hst : row ++ ((chunks ns).take (k + 1)).flatMap (blK 1 ns) = rw2 ++ putV B.length ++ packB B := by
        rw [List.take_add_one, hch, List.flatMap_append, ← List.append_assoc, ← hr2, List.append_assoc, hB]
        simp only [Option.toList_some, List.flatMap_cons, List.flatMap_nil, List.append_nil]
        rfl
      exact T.nextP ⟨k + 1, .slice ad77 (rw2 ++ putV B.length ++ packB B).length cap77, lv77⟩ ⟨by dsimp only; omega, by dsimp only; rw [hst]; exact hv77⟩ zE zq8 zq23 rfl
    · have hd : decide ((k : Int) < (es.length : Int)) = false := decide_eq_false zO
      obtain rfl : k = (chunks ns).length := by omega
      refine yq44 ?_; refine J6 ?_; refine T.freezeP hv zq1 ?_
      intro H2 hle2 hs2
      refine T.retW (Lv.finW [StB sb ns.length 1 (.slice al L.length cl) (.slice ab es.length cb) last blk] zq4 (RV.tmp rfl rfl) ⟨hle2, rfl, ?_⟩)
      rw [show payC ns = rw2 by
        rw [hr2, List.take_length, hr, hhd, hLl, hL]
        simp only [List.append_assoc]
        rfl]
      exact hs2
def payK (kd : Nat) (ns : List Nat) : List Nat := if kd = 0 then payP ns else payC ns
theorem payK_len {kd : Nat} {ns : List Nat} (hl : ns.length ≤ 4096) (hb : ∀ v ∈ ns, v < 1000) : (payK kd ns).length ≤ 300000 := by
  have hp1 := putV_len 2 (show ns.length < 128 ^ 3 by omega)
  have hlc := chunks_len ns
  unfold payK
  split
  · have hp2 := putV_len 2 (show 0 < 128 ^ 3 by omega)
    have hbt := bl_take (kd := 0) (ns := ns) (B := 2003) (fun k hk => (bl0_len (fun v hv => by have := hb v hv; omega) hk).2) (chunks ns).length (Nat.le_refl _)
    rw [List.take_length] at hbt
    have : ((chunks ns).flatMap fun c => putV (packV c).length ++ packV c).length ≤ 2003 * (chunks ns).length := hbt
    unfold payP
    rw [List.length_append, List.length_append]
    omega
  · have hp2 := putV_len 2 (show 1 < 128 ^ 3 by omega)
    have hcn : (cntsS ns).length ≤ 1000 := by rw [cntsS_len]; exact mxS_le hb
    have hp3 := putV_len 2 (show (cntsS ns).length < 128 ^ 3 by omega)
    have hbt := bl_take (kd := 1) (ns := ns) (B := 200) (fun k hk => (bl1_len hb hk).2) (chunks ns).length (Nat.le_refl _)
    rw [List.take_length] at hbt
    have : ((chunks ns).flatMap fun c => putV (symBits (fS ns) (oS ns) c).length ++ packB (symBits (fS ns) (oS ns) c)).length ≤ 200 * (chunks ns).length := hbt
    unfold payC
    simp only [List.length_append, List.length_map, List.length_range]
    omega
theorem payload_fn (kd : Nat) (ns : List Nat) (sb : Nat) (lv bv : Value) (es : List (Value × Nat)) (last : Nat) (blk : Value) (H : Hp) (hk : kd ≤ 1) (hs : StrOk H sb kd ns lv bv es last blk) (hl : ns.length ≤ 4096) (hb : ∀ v ∈ ns, v < 1000) : FnW Tryz.prog 31 #[.pointer (some ⟨sb, 0, none⟩)] H [StB sb ns.length kd lv bv last blk] (fun u H' l' => H.le H' ∧ l' = [StB sb ns.length kd lv bv last blk] ∧ NSl H' .u8 u (payK kd ns)) := by
  rcases Nat.lt_or_ge kd 1 with h | h
  · obtain rfl : kd = 0 := by omega
    exact pay0_fn ns sb lv bv es last blk H hs hl hb
  · obtain rfl : kd = 1 := by omega
    exact pay1_fn ns sb lv bv es last blk H hs hl hb
theorem pack7 {l : List Bool} : ∀ c ∈ packB l, c < 256 := by
  intro c hc
  unfold packB at hc
  obtain ⟨i, _, rfl⟩ := List.mem_map.1 hc
  exact byteB_lt _ _
theorem payK_lt {kd : Nat} {ns : List Nat} (hb : ∀ v ∈ ns, v < 1000) : ∀ c ∈ payK kd ns, c < 256 := by
  intro c hc
  unfold payK at hc
  split at hc
  · unfold payP at hc
    rcases List.mem_append.1 hc with h | h
    · exact putV_lt _ h
    rcases List.mem_append.1 h with h | h
    · exact putV_lt _ h
    obtain ⟨d, _, h⟩ := List.mem_flatMap.1 h
    rcases List.mem_append.1 h with h | h
    · exact putV_lt _ h
    · exact packV_lt c h
  · unfold payC at hc
    rcases List.mem_append.1 hc with h | h
    · exact putV_lt _ h
    rcases List.mem_append.1 h with h | h
    · exact putV_lt _ h
    rcases List.mem_append.1 h with h | h
    · exact putV_lt _ h
    rcases List.mem_append.1 h with h | h
    · obtain ⟨s, _, rfl⟩ := List.mem_map.1 h
      have := fS_le (B := 1000) zD hb s
      omega
    obtain ⟨d, _, h⟩ := List.mem_flatMap.1 h
    rcases List.mem_append.1 h with h | h
    · exact putV_lt _ h
    · exact pack7 c h
theorem tencode_fn (kd : Nat) (ns : List Nat) (sb : Nat) (lv bv : Value) (es : List (Value × Nat)) (last : Nat) (blk : Value) (H : Hp) (hk : kd ≤ 1) (hs : StrOk H sb kd ns lv bv es last blk) (hl : ns.length ≤ 4096) (hb : ∀ v ∈ ns, v < 1000) : FnW Tryz.prog 11 #[.pointer (some ⟨sb, 0, none⟩)] H [StB sb ns.length kd lv bv last blk] (fun u H' l' => H.le H' ∧ l' = [StB sb ns.length kd lv bv last blk] ∧ NSl H' .u8 u (sealC (payK kd ns))) := by
  have hp := payload_fn kd ns sb lv bv es last blk H hk hs hl hb
  have hpl := payK_len (kd := kd) hl hb
  refine FnW.of_T (vs := [.pointer (some ⟨sb, 0, none⟩)]) Tryz.func11 rfl rfl fun w => ?_; refine J7 ?_; (refine T.callW Wanted.none rfl rfl hp zq1 ?_; rintro v4 H1 _ _ ⟨hle1, rfl, hv4⟩; obtain ⟨ad4, cap4, rfl⟩ := hv4.len); (refine T.call Wanted.none rfl rfl (seal_fn _ _ _ hv4 (payK_lt hb) zO) ?_; rintro v5 H2 hle2 hv5; obtain ⟨ad5, cap5, rfl⟩ := hv5.len); refine J2 ?_
  exact T.retW (Lv.finW [StB sb ns.length kd lv bv last blk] zq4 (RV.tmp rfl rfl) ⟨hle1.trans hle2, rfl, hv5⟩)

end Go.Proofs.YtecogbhbkccblaaGreatDoor
namespace Go.Proofs.YtecogbhbkccblaaGreatDoor
open Go.RowKit


/-- the kind that is chosen -/
def kdS (ns : List Nat) : Nat := if (payC ns).length < (payP ns).length then 1 else 0
theorem kdS_le (ns : List Nat) : kdS ns ≤ 1 := by unfold kdS; split <;> decide
theorem tbuild_fn (ns : List Nat) (av : Value) (H : Hp) (ha : NSl H .i64 av ns) (hl : ns.length ≤ 4096) (hb : ∀ v ∈ ns, v < 1000) : FnW Tryz.prog 7 #[av] H [] (fun u H' l' => H.le H' ∧ ∃ sb lv bv es, u = .tuple #[.pointer (some ⟨sb, 0, none⟩), .int .i64 0] ∧ l' = [StB sb ns.length (kdS ns) lv bv 0 (.slice none 0 0)] ∧ StrOk H' sb (kdS ns) ns lv bv es 0 (.slice none 0 0)) := by
  have hb16 : ∀ v ∈ ns, v < 65536 := fun v hv => by have := hb v hv; omega
  have hpk := packed_fn ns av H ha hl hb16
  have hcd := fun H1 (h : H.le H1) => coded_fn ns av H1 (ha.mono h) hl hb
  have hl0 := payK_len (kd := 0) hl hb
  have hl1 := payK_len (kd := 1) hl hb
  obtain ⟨ad, cap, rfl⟩ := ha.len
  have hd0 : decide ((4096 : Int) < (ns.length : Int)) = false := decide_eq_false zO
  refine FnW.of_T (vs := [.slice ad ns.length cap]) Tryz.func7 rfl rfl fun w => ?_; refine J12 ?_; refine yq6 ?_; refine J9 ?_; refine T.loopK [(12, Value.int IntKind.i64 (↑ns.length : Int)), (11, Value.slice ad ns.length cap), (0, Value.slice ad ns.length cap)] zq8 (γ := Nat) (fun i => i ≤ ns.length) (fun i => [(13, .int .i64 (i : Int))]) (fun _ => []) (fun _ => H) (fun i => ns.length - i) 0 (Nat.zero_le _) zq8 zq23 rfl ?_
  intro i hi
  by_cases h : i < ns.length
  · obtain ⟨x, hx⟩ : ∃ x, ns[i]? = some x := ⟨_, List.getElem?_eq_getElem h⟩
    have hx1 := hb x (List.mem_of_getElem? hx)
    obtain ⟨b, off, rfl, hsub⟩ := NSl.at ha hx
    have hd : decide ((i : Int) < (ns.length : Int)) = true := decide_eq_true zO
    have hd1 : decide ((x : Int) < 0) = false := decide_eq_false zO
    have hd2 : decide ((1024 : Int) ≤ (x : Int)) = false := decide_eq_false zO
    refine yq94 ?_; refine J11 ?_; refine yq85 ?_
    exact T.nextP (i + 1) zO zO zq8 zq23 rfl
  · have hd : decide ((i : Int) < (ns.length : Int)) = false := decide_eq_false zO
    refine yq44 ?_; refine J4 ?_; (refine T.callW Wanted.none rfl rfl hpk Pick.nil ?_; rintro _ H1 _ hle1 ⟨_, saa, bva, esa, rfl, rfl, hsa⟩); refine sm ?_; (refine T.callW Wanted.none rfl rfl (hcd H1 hle1) Pick.nil ?_; rintro _ H2 _ hle2 ⟨_, sc, lvc, bvc, esc, rfl, rfl, hsc⟩); refine J3 ?_
    have hpc := payload_fn 1 ns sc _ _ _ _ _ H2 zD hsc hl hb
    have hpp := fun H3 (h : H2.le H3) => payload_fn 0 ns saa _ _ _ _ _ H3 zD ((hsa.mono hle2).mono h) hl hb
    by_cases hk : (payC ns).length < (payP ns).length
    · have hke : kdS ns = 1 := by unfold kdS; rw [if_pos hk]
      have hd3 : decide (((payK 1 ns).length : Int) < ((payK 0 ns).length : Int)) = true := decide_eq_true (by
        show ((payC ns).length : Int) < ((payP ns).length : Int); omega)
      refine J4 ?_; (refine T.callW Wanted.none rfl rfl hpc zq1 ?_; rintro v29 H3 _ hle3 ⟨_, rfl, hv29⟩; obtain ⟨ad29, cap29, rfl⟩ := hv29.len); refine J2 ?_; (refine T.callW Wanted.none rfl rfl (hpp H3 hle3) zq1 ?_; rintro v32 H4 _ hle4 ⟨_, rfl, hv32⟩; obtain ⟨ad32, cap32, rfl⟩ := hv32.len); refine J3 ?_; refine yq110 ?_
      rw [hke]
      exact T.retW (Lv.finW [StB sc ns.length 1 lvc bvc 0 (.slice none 0 0)] zq4 (RV.tmp2 rfl rfl rfl) ⟨((hle1.trans hle2).trans hle3).trans hle4, sc, lvc, bvc, esc, rfl, rfl, (hsc.mono hle3).mono hle4⟩)
    · have hke : kdS ns = 0 := by unfold kdS; rw [if_neg hk]
      have hd3 : decide (((payK 1 ns).length : Int) < ((payK 0 ns).length : Int)) = false := decide_eq_false (by
        show ¬ ((payC ns).length : Int) < ((payP ns).length : Int); omega)
      refine J4 ?_; (refine T.callW Wanted.none rfl rfl hpc zq1 ?_; rintro v29 H3 _ hle3 ⟨_, rfl, hv29⟩; obtain ⟨ad29, cap29, rfl⟩ := hv29.len); refine J2 ?_; (refine T.callW Wanted.none rfl rfl (hpp H3 hle3) zq1 ?_; rintro v32 H4 _ hle4 ⟨_, rfl, hv32⟩; obtain ⟨ad32, cap32, rfl⟩ := hv32.len); refine J3 ?_; refine yq6 ?_; refine J7 ?_
      rw [hke]
      exact T.retW (Lv.finW [StB saa ns.length 0 (.slice none 0 0) bva 0 (.slice none 0 0)] zq4 (RV.tmp2 rfl rfl rfl) ⟨((hle1.trans hle2).trans hle3).trans hle4, saa, _, bva, esa, rfl, rfl, ((hsa.mono hle2).mono hle3).mono hle4⟩)

end Go.Proofs.YtecogbhbkccblaaGreatDoor
