/- tokens: reading a coded stream.
   tokens: Decode. -/
import Derived.Test.YtecogbhbkccblaaGreatDoorH7
set_option maxRecDepth 4000
set_option maxHeartbeats 40000000
set_option linter.all false
namespace Go.Proofs.YtecogbhbkccblaaGreatDoor
open Go.RowKit


theorem num1_fn (ns : List Nat) (rb : Nat) (v : Value) (H : Hp) (hv : NSl H .u8 v (payC ns)) (hl : ns.length ≤ 4096) (hb : ∀ v ∈ ns, v < 1000) : FnW Tryz.prog 39 #[.pointer (some ⟨rb, 0, none⟩)] H [tNumberB rb v] (fun u H' l' => l' = [] ∧ H.le H' ∧ ∃ w, u = .tuple #[w, .bool true] ∧ NSl H' .i64 w ns) := by
  have hlc := chunks_len ns
  have hp2 := putV_len 2 (show 1 < 128 ^ 3 by omega)
  have hfl := fun k j => blks_len (kd := 1) (ns := ns) (B := 200) (fun k hk => (bl1_len hb hk).2) k j
  obtain ⟨L, hL⟩ : ∃ L, L = tabF (cntsS ns).length (fS ns) := ⟨_, rfl⟩
  have hLl : L.length = (cntsS ns).length := by rw [hL, tabF_len]
  have hcn : (cntsS ns).length ≤ 1000 := by rw [cntsS_len]; exact mxS_le hb
  have hLx : ∀ x ∈ L, x ≤ 15 := fun x hx => by
    rw [hL] at hx
    obtain ⟨s, _, rfl⟩ := List.mem_map.1 hx
    exact fS_le (B := 1000) zD hb s
  have hpe : payC ns = putV ns.length ++ (putV 1 ++ (putV L.length ++ (L ++ ((chunks ns).drop 0).flatMap (blK 1 ns)))) := by rw [hLl, hL]; rfl
  rw [hpe] at hv
  have hf0 := hfl 0 (chunks ns).length zO
  have hp4 := putV_len 2 (show L.length < 128 ^ 3 by omega)
  obtain ⟨R0, hR0⟩ : ∃ R, R = ((chunks ns).drop 0).flatMap (blK 1 ns) := ⟨_, rfl⟩
  rw [← hR0] at hv hf0
  have hn1 := tNumber_fn rb v ns.length 4096 _ H hv zO zO zD (by simp only [List.length_append]; omega)
  have hn2 := fun v hv => tNumber_fn rb v 1 1 (putV L.length ++ (L ++ R0)) H hv zO zO zD (by simp only [List.length_append]; omega)
  have hn3 := fun v hv => tNumber_fn rb v L.length 1024 (L ++ R0) H hv zO zO zD (by simp only [List.length_append]; omega)
  have hb3 := fun v hv => tbytes_fn rb v L R0 H hv zO zO
  obtain ⟨ad, cap, rfl⟩ := hv.len
  refine FnW.of_T (vs := [.pointer (some ⟨rb, 0, none⟩)]) Tryz.func39 rfl rfl fun w => ?_; refine J8 ?_; (refine T.callW Wanted.none rfl rfl hn1 zq1 ?_; rintro _ H13 _ _ ⟨rfl, hH13, v1, rfl, hv1⟩; have hH13 := hH13.symm; subst hH13); refine sm ?_; (refine T.callW Wanted.none rfl rfl (hn2 _ hv1) zq1 ?_; rintro _ H15 _ _ ⟨rfl, hH15, v2, rfl, hv2⟩; have hH15 := hH15.symm; subst hH15); refine yq39 ?_; refine sy fun b4 => ?_; refine yq2 ?_; refine J13 ?_; (refine T.callW Wanted.none rfl rfl (hn3 _ hv2) zq1 ?_; rintro _ H22 _ _ ⟨rfl, hH22, v3, rfl, hv3⟩; have hH22 := hH22.symm; subst hH22); (refine T.callW Wanted.none rfl rfl (hb3 _ hv3) zq1 ?_; rintro v23 H23 _ _ ⟨hH23, hv23, v4, rfl, hv4⟩; have hH23 := hH23.symm; subst hH23; obtain ⟨ad23, cap23, rfl⟩ := hv23.len); refine J4 ?_; refine T.loopK [(24, Value.int IntKind.i64 (↑L.length : Int)), (23, Value.slice ad23 L.length cap23), (4, Value.pointer (some { block := b4, off := 0 })), (0, Value.pointer (some { block := rb, off := 0 }))] zq8 (γ := PlG) (fun g => g.k ≤ L.length ∧ NRow 3 .i64 g.v g.lv (L.take g.k)) (fun g => [(25, .int .i64 (g.k : Int))]) (fun g => StB b4 ns.length 1 g.v (.slice none 0 0) 0 (.slice none 0 0) :: tNumberB rb v4 :: g.lv) (fun _ => H) (fun g => L.length - g.k) ⟨0, .slice none 0 0, []⟩ ⟨Nat.zero_le _, NRow.nil _ _⟩ zq8 zq23 rfl ?_
  rintro ⟨k, lv, lr⟩ ⟨hk, hr⟩
  dsimp only at hk hr ⊢
  obtain ⟨av, cv, rfl⟩ := hr.val
  have hrl : (L.take k).length ≤ 1000 := by rw [List.length_take]; omega
  by_cases h : k < L.length
  · obtain ⟨x, hx⟩ : ∃ x, L[k]? = some x := ⟨_, List.getElem?_eq_getElem h⟩
    have hx15 := hLx x (List.mem_of_getElem? hx)
    obtain ⟨b, off, rfl, hsub⟩ := NSl.at hv23 hx
    have hd : decide ((k : Int) < (L.length : Int)) = true := decide_eq_true zO
    refine yq94 ?_; refine J7 ?_; (refine T.buildSlice Wanted.none rfl rfl zq11 zX zX ?_; intro b33); (refine T.appendP (lv := lr) Wanted.none rfl rfl rfl hr (Src.cells (m := 1) (ys := nV .i64 [x]) (.own zq2) rfl rfl) (nV_one _ _) zO zq1 ?_; intro v34 lv34 hv34 _; have hv34 := NRow.app hv34; obtain ⟨ad34, cap34, rfl⟩ := hv34.val); refine sf ?_; refine yq1 ?_; refine J6 ?_
    exact T.nextP ⟨k + 1, .slice ad34 (L.take k ++ [x]).length cap34, lv34⟩ ⟨by dsimp only; omega, by dsimp only; rw [List.take_add_one, hx]; exact hv34⟩ zE zq8 zq23 rfl
  · have hd : decide ((k : Int) < (L.length : Int)) = false := decide_eq_false zO
    obtain rfl : k = L.length := by omega
    rw [List.take_length] at hr ⊢
    refine T.freezeP hr zq1 ?_
    intro H0 hle0 hsL
    refine yq44 ?_; refine J11 ?_; refine T.loopK [(4, Value.pointer (some { block := b4, off := 0 })), (0, Value.pointer (some { block := rb, off := 0 }))] zq8 (γ := NmG) (fun g => g.k ≤ (chunks ns).length ∧ H0.le g.H ∧ NSl g.H .u8 g.v (((chunks ns).drop g.k).flatMap (blK 1 ns)) ∧ NRow 3 .i64 g.ov g.lo ((chunks ns).take g.k).flatten) (fun g => [(8, .int .i64 (g.k : Int)), (7, g.ov)]) (fun g => StB b4 ns.length 1 (.slice av L.length cv) (.slice none 0 0) 0 (.slice none 0 0) :: tNumberB rb g.v :: g.lo) (fun g => g.H) (fun g => (chunks ns).length - g.k) ⟨0, v4, .slice none 0 0, [], H0⟩ ⟨Nat.zero_le _, Hp.le.refl _, by rw [← hR0]; exact hv4.mono hle0, NRow.nil _ _⟩ zq8 zq23 rfl ?_
    rintro ⟨k, v, ov, lo, H1⟩ ⟨hk, hle, hv, ho⟩
    dsimp only at hk hle hv ho ⊢
    obtain ⟨ao, co, rfl⟩ := ho.val
    have hol : (((chunks ns).take k).flatten).length ≤ 4096 := by
      have h1 := congrArg List.length (chunks_join ns)
      rw [← List.take_append_drop k (chunks ns), List.flatten_append, List.length_append] at h1
      omega
    by_cases h : k < (chunks ns).length
    · have hch := chunks_get (ns := ns) (k := k) zO
      obtain ⟨hl1, hl2⟩ := bl1_len (ns := ns) (k := k) hb zO
      have hcl := chunk_len ns (k := k) zO
      rw [blks_take 1 ns zO] at hv
      obtain ⟨R, hR⟩ : ∃ R, R = ((chunks ns).drop (k + 1)).flatMap (blK 1 ns) := ⟨_, rfl⟩
      have hRl := hfl (k + 1) ((chunks ns).length - (k + 1)) zO
      rw [← hR] at hv hRl
      obtain ⟨B, hB⟩ : ∃ B, B = symBits (fS ns) (oS ns) (chunk ns k) := ⟨_, rfl⟩
      obtain ⟨P, hP⟩ : ∃ P, P = packB B := ⟨_, rfl⟩
      rw [show blK 1 ns (chunk ns k) = putV B.length ++ P by rw [hP, hB]; rfl, List.append_assoc] at hv
      rw [← hB] at hl1
      have hPl : P.length = (B.length + 7) / 8 := by rw [hP, packB_len]
      have hp3 := putV_len 2 (show B.length < 128 ^ 3 by omega)
      have hal : (putV B.length ++ (P ++ R)).length = (putV B.length).length + (P.length + R.length) := by rw [List.length_append, List.length_append]
      have hal2 : (P ++ R).length = P.length + R.length := List.length_append
      have hN := tNumber_fn rb v B.length (8 * (putV B.length ++ (P ++ R)).length) (P ++ R) H1 hv zO zO zO zO
      have hB2 : ∀ v, NSl H1 .u8 v (P ++ R) → FnW Tryz.prog 70 #[.pointer (some ⟨rb, 0, none⟩), .int .i64 (((B.length + 7) / 8 : Nat) : Int)] H1 [tNumberB rb v] (fun u H' l' => H' = H1 ∧ NSl H1 .u8 u P ∧ ∃ v', l' = [tNumberB rb v'] ∧ NSl H1 .u8 v' R) := fun v hv => by
        rw [← hPl]
        exact tbytes_fn rb v P R H1 hv zO zO
      have hsL1 : NSl H1 .i64 (.slice av L.length cv) L := hsL.mono hle
      have hU := fun v (hv : NSl H1 .u8 v P) => hdecode_fn (fS ns) (cntsS ns).length (chunk ns k) [] B (.slice av L.length cv) v H1 (hL ▸ hsL1) (by rw [List.append_nil, ← hP]; exact hv) zD (codeS hb) zO (fun s hs => (oS_mem (B := 1000) zD hb).2 (chunk_mem hs)) hB
      rw [hcl] at hU
      have hz := fun H => tsize_fn b4 ns.length 1 k (.slice av L.length cv) (.slice none 0 0) 0 (.slice none 0 0) H zO hl
      obtain ⟨avv, cvv, rfl⟩ := hv.len
      have hd : decide ((k : Int) * 64 < (ns.length : Int)) = true := decide_eq_true zO
      have hd2 : decide (((chunk ns k).length : Int) ≠ ((min 64 (ns.length - 64 * k) : Nat) : Int)) = false := decide_eq_false zO
      refine J15 ?_; refine yq9 ?_; refine J28 ?_; (refine T.callW Wanted.none rfl rfl hN zq1 ?_; rintro _ H73 _ _ ⟨rfl, hH73, v1, rfl, hv1⟩; have hH73 := hH73.symm; subst hH73); refine sa ?_
      refine so ?_
      (repeat refine sq ?_)
      refine T.regionO [StB b4 ns.length 1 (.slice av L.length cv) (.slice none 0 0) 0 (.slice none 0 0)] zK ?_; refine TO.take 0 rfl zK zK zK (PV.fieldAddr rfl) Wanted.none rfl rfl ?_; refine TO.take 1 rfl zK zK zK (PV.load1 rfl zq0 rfl) Wanted.none rfl rfl ?_; refine yq95 ?_; refine TO.take 4 rfl zK zK zK (PV.add rfl rfl zO) Wanted.none rfl rfl ?_; refine yq83 ?_; refine TO.take 8 rfl zK zK zK (PV.move rfl) Wanted.none rfl rfl ?_; refine TO.step 5 rfl zK zq4 zq19 ?_
      (refine sv (PV.quoN (m := B.length + 7) (n := 8) rfl rfl zD zO) ?_)
      refine yq30 ?_; refine TO.step 6 rfl zK zq4 zq19 ?_; (refine T.callW Wanted.none rfl rfl (hB2 _ hv1) zq1 ?_; rintro v81 H81 _ _ ⟨hH81, hv81, v2, rfl, hv2⟩; have hH81 := hH81.symm; subst hH81; obtain ⟨ad81, cap81, rfl⟩ := hv81.len); refine yq30 ?_; refine TO.step 9 rfl zK zq4 zq19 ?_; refine T.callWV Wanted.none rfl rfl (hz _) zq1 ?_; refine yq30 ?_; refine TO.step 10 rfl zK zq4 zq19 ?_; (refine T.call Wanted.none rfl rfl (hU _ hv81) ?_; rintro _ H4 hle4 ⟨v4, rfl, hv4⟩; obtain ⟨a4, c4, rfl⟩ := hv4.len); refine yq30 ?_; refine TO.take 11 rfl zK zK zK (PV.move rfl) Wanted.none rfl rfl ?_; refine TO.take 12 rfl zK zK zK (PV.extract rfl rfl) Wanted.none rfl rfl ?_; refine TO.take 13 rfl zK zK zK (PV.extract rfl rfl) Wanted.none rfl rfl ?_; refine TO.take 14 rfl zK zK zK (PV.assign rfl) Wanted.none rfl rfl ?_; refine TO.take 15 rfl zK zK zK (PV.assign rfl) Wanted.none rfl rfl ?_; refine yq37 ?_; refine J16 ?_; refine T.callWV (Wanted.guard rfl rfl rfl) rfl rfl (hz _) zq1 ?_; refine J3 ?_; refine yq6 ?_
      refine J4 ?_; (refine T.appendP (lv := lo) Wanted.none rfl rfl rfl ho hv4.src (nV_one _ _) zO zq1 ?_; intro v106 lv106 hv106 _; have hv106 := NRow.app hv106; obtain ⟨ad106, cap106, rfl⟩ := hv106.val); refine J8 ?_
      have hst : ((chunks ns).take (k + 1)).flatten = ((chunks ns).take k).flatten ++ chunk ns k := by
        rw [List.take_add_one, hch, List.flatten_append]
        simp only [Option.toList_some, List.flatten_cons, List.flatten_nil, List.append_nil]
      exact T.nextP ⟨k + 1, v2, .slice ad106 (((chunks ns).take k).flatten ++ chunk ns k).length cap106, lv106, H4⟩ ⟨by dsimp only; omega, hle.trans hle4, by dsimp only; rw [← hR]; exact hv2.mono hle4, by dsimp only; rw [hst]; exact hv106⟩ zE zq8 zq23 rfl
    · have hd : decide ((k : Int) * 64 < (ns.length : Int)) = false := decide_eq_false zO
      obtain rfl : k = (chunks ns).length := by omega
      rw [List.take_length, chunks_join] at ho ⊢
      refine J15 ?_; refine yq6 ?_; refine yq119 ?_; refine I8 ?_; refine T.freezeP ho zq1 ?_
      intro H2 hle2 hs2
      exact T.retW (Lv.finW [] zq4 (RV.tmp2 rfl rfl rfl) ⟨rfl, (hle0.trans hle).trans hle2, _, rfl, hs2⟩)

end Go.Proofs.YtecogbhbkccblaaGreatDoor
namespace Go.Proofs.YtecogbhbkccblaaGreatDoor
open Go.RowKit


theorem num_fn (kd : Nat) (ns : List Nat) (rb : Nat) (v : Value) (H : Hp) (hv : NSl H .u8 v (payK kd ns)) (hl : ns.length ≤ 4096) (hb : ∀ v ∈ ns, v < 1000) : FnW Tryz.prog 39 #[.pointer (some ⟨rb, 0, none⟩)] H [tNumberB rb v] (fun u H' l' => l' = [] ∧ H.le H' ∧ ∃ w, u = .tuple #[w, .bool true] ∧ NSl H' .i64 w ns) := by
  unfold payK at hv
  split at hv
  · exact num0_fn ns rb v H hv hl hb
  · exact num1_fn ns rb v H hv hl hb
theorem tdec_fn (ns : List Nat) (av : Value) (H : Hp) (ha : NSl H .u8 av (sealC (payK (kdS ns) ns))) (hl : ns.length ≤ 4096) (hb : ∀ v ∈ ns, v < 1000) : FnW Tryz.prog 10 #[av] H [] (fun u H' l' => H.le H' ∧ ∃ sb lv bv es, u = .tuple #[.pointer (some ⟨sb, 0, none⟩), .int .i64 0] ∧ l' = [StB sb ns.length (kdS ns) lv bv 0 (.slice none 0 0)] ∧ StrOk H' sb (kdS ns) ns lv bv es 0 (.slice none 0 0)) := by
  have hpl := payK_len (kd := kdS ns) hl hb
  have hplt := payK_lt (kd := kdS ns) hb
  have hun := unseal_fn (payK (kdS ns) ns) av H ha hplt zO
  have hslt := sealC_lt hplt
  have hnm := fun rb v H hv => num_fn (kdS ns) ns rb v H hv hl hb
  have hbd := fun v H hv => tbuild_fn ns v H hv hl hb
  have hkl := kdS_le ns
  obtain ⟨ad, cap, rfl⟩ := ha.len
  refine FnW.of_T (vs := [.slice ad (sealC (payK (kdS ns) ns)).length cap]) Tryz.func10 rfl rfl fun w => ?_; refine J8 ?_; (refine T.call Wanted.none rfl rfl hun ?_; rintro _ H1 hle1 ⟨v1, rfl, hv1⟩; obtain ⟨a1, c1, rfl⟩ := hv1.len); refine J17 ?_; refine yq39 ?_; refine sy fun b6 => ?_; refine yq2 ?_; refine zs1 ?_; (refine T.callW Wanted.none rfl rfl (hnm _ _ _ hv1) zq1 ?_; rintro _ H2 _ _ ⟨rfl, hle2, v2, rfl, hv2⟩; obtain ⟨a2, c2, rfl⟩ := hv2.len); refine J14 ?_
  refine J3 ?_; (refine T.callW Wanted.none rfl rfl (hbd _ _ hv2) Pick.nil ?_; rintro _ H3 _ hle3 ⟨_, sb, lv, bv, es, rfl, rfl, hs3⟩); refine J13 ?_; (refine T.callW (Wanted.guard rfl rfl rfl) rfl rfl (tencode_fn (kdS ns) ns sb lv bv es 0 _ H3 hkl hs3 hl hb) zq1 ?_; rintro _ H4 _ _ ⟨hle4, rfl, hv4⟩; obtain ⟨a4, c4, rfl⟩ := hv4.len); refine gm ?_; (refine T.call (Wanted.guard rfl rfl rfl) rfl rfl (bytesEqual_fn (sealC (payK (kdS ns) ns)) _ _ H4 hv4 (ha.mono (((hle1.trans hle2).trans hle3).trans hle4)) hslt) ?_; rintro _ H5 hle5 rfl); refine J11 ?_
  exact T.retW (Lv.finW [StB sb ns.length (kdS ns) lv bv 0 (.slice none 0 0)] zq4 (RV.tmp2 rfl rfl rfl) ⟨(((hle1.trans hle2).trans hle3).trans hle4).trans hle5, sb, lv, bv, es, rfl, rfl, (hs3.mono hle4).mono hle5⟩)

end Go.Proofs.YtecogbhbkccblaaGreatDoor
