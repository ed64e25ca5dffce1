/- the example: the file is read.
   the whole: the example. -/
import Derived.Test.YtecogbhbkccblaaGreatDoorGK
set_option maxRecDepth 4000
set_option maxHeartbeats 40000000
set_option linter.all false
namespace Go.Proofs.YtecogbhbkccblaaGreatDoor
open Go.RowKit


theorem T.ownE {P : Program} {X : Cx} {e : Env} {l l' : List (Nat × Obj)} {H : Hp} {D : List Deferred} {k : List It} (hl : l = l') (h : T P X e l' H D k) : T P X e l H D k := hl ▸ h
abbrev dat : ByteArray := ⟨#[60, 116, 101, 120, 116, 32, 105, 100, 61, 34, 116, 34, 62, 10, 60, 115, 62, 10, 97, 10, 60, 47, 115, 62, 10, 98, 10, 60, 47, 116, 101, 120, 116, 62, 10]⟩
theorem RV.cct {P : Program} {e : Env} {l : List (Nat × Obj)} {H : Hp} {fn : Func} {p q r : Tmp} {t u : TypeId} {v1 v2 v3 : Value} (h : fn.results = #[.cell p t, .cell q u, .tmp r]) (hv : CV P e l H p t v1) (hv2 : CV P e l H q u v2) (hv3 : e.get r = some v3) : RV P fn e l H (.tuple #[v1, v2, v3]) := RV.mk fun X D a w ha hw => by
  unfold CV at hv hv2
  obtain ⟨a1, g1, h1⟩ := hv
  obtain ⟨a2, g2, h2⟩ := hv2
  have h1 := h1 X w hw
  have h2 := h2 X w hw
  simp [results, h, ha.get _ _ g1, ha.get _ _ g2, ha.get _ _ hv3, asAddr, h1, h2]
theorem ct1 (H : Hp) : Fn Tryz.prog 83 #[.string (dat.extract 0 35), .string ⟨#[10]⟩] H (fun u _ => u = .tuple #[.string ln1, .string (dat.extract 14 35), .bool true]) := by
  have h := cut_fn (dat.extract 0 35) ⟨#[10]⟩ 10 13 rfl (by decide +kernel) (by decide +kernel) (by decide +kernel) H
  rw [show (dat.extract 0 35).extract 0 13 = ln1 by decide +kernel, show (dat.extract 0 35).extract (13 + 1) (dat.extract 0 35).size = dat.extract 14 35 by decide +kernel] at h
  exact h
theorem ct2 (H : Hp) : Fn Tryz.prog 83 #[.string (dat.extract 14 35), .string ⟨#[10]⟩] H (fun u _ => u = .tuple #[.string ln2, .string (dat.extract 18 35), .bool true]) := by
  have h := cut_fn (dat.extract 14 35) ⟨#[10]⟩ 10 3 rfl (by decide +kernel) (by decide +kernel) (by decide +kernel) H
  rw [show (dat.extract 14 35).extract 0 3 = ln2 by decide +kernel, show (dat.extract 14 35).extract (3 + 1) (dat.extract 14 35).size = dat.extract 18 35 by decide +kernel] at h
  exact h
theorem ct3 (H : Hp) : Fn Tryz.prog 83 #[.string (dat.extract 18 35), .string ⟨#[10]⟩] H (fun u _ => u = .tuple #[.string ln3, .string (dat.extract 20 35), .bool true]) := by
  have h := cut_fn (dat.extract 18 35) ⟨#[10]⟩ 10 1 rfl (by decide +kernel) (by decide +kernel) (by decide +kernel) H
  rw [show (dat.extract 18 35).extract 0 1 = ln3 by decide +kernel, show (dat.extract 18 35).extract (1 + 1) (dat.extract 18 35).size = dat.extract 20 35 by decide +kernel] at h
  exact h
theorem ct4 (H : Hp) : Fn Tryz.prog 83 #[.string (dat.extract 20 35), .string ⟨#[10]⟩] H (fun u _ => u = .tuple #[.string ln4, .string (dat.extract 25 35), .bool true]) := by
  have h := cut_fn (dat.extract 20 35) ⟨#[10]⟩ 10 4 rfl (by decide +kernel) (by decide +kernel) (by decide +kernel) H
  rw [show (dat.extract 20 35).extract 0 4 = ln4 by decide +kernel, show (dat.extract 20 35).extract (4 + 1) (dat.extract 20 35).size = dat.extract 25 35 by decide +kernel] at h
  exact h
theorem ct5 (H : Hp) : Fn Tryz.prog 83 #[.string (dat.extract 25 35), .string ⟨#[10]⟩] H (fun u _ => u = .tuple #[.string ln5, .string (dat.extract 27 35), .bool true]) := by
  have h := cut_fn (dat.extract 25 35) ⟨#[10]⟩ 10 1 rfl (by decide +kernel) (by decide +kernel) (by decide +kernel) H
  rw [show (dat.extract 25 35).extract 0 1 = ln5 by decide +kernel, show (dat.extract 25 35).extract (1 + 1) (dat.extract 25 35).size = dat.extract 27 35 by decide +kernel] at h
  exact h
theorem ct6 (H : Hp) : Fn Tryz.prog 83 #[.string (dat.extract 27 35), .string ⟨#[10]⟩] H (fun u _ => u = .tuple #[.string ln6, .string (dat.extract 35 35), .bool true]) := by
  have h := cut_fn (dat.extract 27 35) ⟨#[10]⟩ 10 7 rfl (by decide +kernel) (by decide +kernel) (by decide +kernel) H
  rw [show (dat.extract 27 35).extract 0 7 = ln6 by decide +kernel, show (dat.extract 27 35).extract (7 + 1) (dat.extract 27 35).size = dat.extract 35 35 by decide +kernel] at h
  exact h
theorem tokA : TokOk ln3 := ⟨by decide, by decide +kernel, fun j c h => by
  match j, h with
  | 0, h => cases h; decide
  | j + 1, h => simp at h, vv_a⟩
theorem tokB : TokOk ln5 := ⟨by decide, by decide +kernel, fun j c h => by
  match j, h with
  | 0, h => cases h; decide
  | j + 1, h => simp at h, vv_b⟩
set_option maxRecDepth 100000 in
theorem parse_ex (ba oa cva : Nat) (H : Hp) (hva : SlR H 2 (.slice (some ⟨ba, oa, none⟩) 1 cva) 1 [.string bWord, .bool false]) :
    Fn Tryz.prog 50 #[.string dat, .slice (some ⟨ba, oa, none⟩) 1 cva] H (fun u H' => ∃ ba oa cva bt ot ct bx ox cx br or cr, u = .tuple #[exV ba oa cva bt ot ct bx ox cx br or cr, .agg #[.int .i64 0, .int .i64 0], .int .i64 0] ∧ ExC H' ba oa cva bt ot ct bx ox cx br or cr) := by
  have hca := checkAtt_fn ba oa cva H hva
  refine Fn.of_T (vs := [.string dat, .slice (some ⟨ba, oa, none⟩) 1 cva]) Tryz.func50 rfl rfl fun w => ?_; refine zs3 ?_; refine sy fun b4 => ?_; refine sy fun b5 => ?_; refine J6 ?_; refine T.callV Wanted.none rfl rfl (hca) ?_; refine J16 ?_; (refine T.appendP (lv := []) Wanted.none rfl rfl rfl (Vec.nil 105 2) (SlR.src hva) (by intro v hv; simp at hv; rcases hv with rfl | rfl <;> rfl) zO zq1 ?_; intro v24 lv24 hv24 _; obtain ⟨b24, c24, rfl⟩ := hv24.ptr zO; refine T.freezeP (lv := lv24) hv24 zq1 ?_; intro H24 hle24 hsa24); refine yq39 ?_; refine yq39 ?_; refine sy fun b7 => ?_; refine yq2 ?_; refine J7 ?_
  have hsaA : SlR H24 2 (.slice (some ⟨b24, 0, none⟩) 1 c24) 1 [.string bWord, .bool false] := hsa24
  have ed : dat.size = 35 := rfl
  have e1 : ln1.size = 13 := rfl
  have e2 : ln2.size = 3 := rfl
  have e3 : ln3.size = 1 := rfl
  have e4 : ln4.size = 4 := rfl
  have e5 : ln5.size = 1 := rfl
  have e6 : ln6.size = 7 := rfl
  refine T.rounds 7 ?_
  have hl1 := line1_fn b7 (some ⟨b24, 0, none⟩) 1 c24 H24
  refine J15 ?_; refine sv (PV.sliceStrL rfl rfl zO) ?_; refine T.callV Wanted.none rfl rfl (ct1 H24) ?_; refine J12 ?_; refine T.callW Wanted.none rfl rfl hl1 zq1 ?_
  rintro _ H1 l1 hle1 ⟨rfl, ax, cx, lvx, hvx, rfl⟩
  refine T.ownE (by rw [List.append_assoc, List.cons_append, List.nil_append]) ?_
  have hl2 := line2_fn b7 (some ⟨b24, 0, none⟩) ax 1 c24 1 cx H1
  refine sy fun b12 => ?_; refine yq2 ?_; refine J18 ?_; refine T.again ?_; refine J15 ?_; refine sv (PV.sliceStrL rfl rfl zO) ?_; refine T.callV Wanted.none rfl rfl (ct2 H1) ?_; refine J6 ?_
  refine J6 ?_; refine T.callW Wanted.none rfl rfl hl2 (Pick.leave (Pick.app (Pick.take Pick.nil))) ?_
  rintro _ H2 l2 hle2 ⟨rfl, ao, co, lvo, hvo, rfl⟩
  refine T.ownE (by rw [List.append_assoc, List.cons_append, List.nil_append]) ?_
  have hl3 := lineT_fn b7 none ax none ao b24 0 c24 0 0 1 cx 0 0 1 co [] [] ln3 H2 zO (hsaA.mono (hle1.trans hle2)) (Vec.nil _ _) tokA (by decide +kernel)
  refine sy fun b12 => ?_; refine yq2 ?_; refine J18 ?_; refine T.again ?_; refine J15 ?_; refine sv (PV.sliceStrL rfl rfl zO) ?_; refine T.callV Wanted.none rfl rfl (ct3 H2) ?_; refine J6 ?_
  refine J6 ?_; refine T.callW Wanted.none rfl rfl hl3 (Pick.leave (Pick.app (Pick.take Pick.nil))) ?_
  rintro _ H3 l3 hle3 ⟨rfl, at1, ct, lvt, v1, hvt, hv1, rfl⟩
  refine T.ownE (by rw [List.append_assoc, List.cons_append, List.nil_append]) ?_
  have hl4 := line4_fn b7 (some ⟨b24, 0, none⟩) ax at1 ao 1 c24 1 cx ct co lvo H3 hvo
  refine sy fun b12 => ?_; refine yq2 ?_; refine J18 ?_; refine T.again ?_; refine J15 ?_; refine sv (PV.sliceStrL rfl rfl zO) ?_; refine T.callV Wanted.none rfl rfl (ct4 H3) ?_; refine J6 ?_
  refine J6 ?_; refine T.front lvo (Pick.leave (Pick.app (Pick.leave (Pick.leave Pick.allA)))) ?_; refine T.callW Wanted.none rfl rfl hl4 (Pick.takeA (Pick.leave (Pick.app (Pick.take Pick.nil)))) ?_
  rintro _ H4 l4 hle4 ⟨rfl, ar, cr, lvr, ao2, co2, hvr, rfl⟩
  refine T.ownE (by rw [List.append_assoc, List.cons_append, List.nil_append]) ?_; refine T.freezeP (lv := lvr) hvr Pick.allA ?_
  intro H5 hle5 hsr
  have hl5 := lineT_fn b7 at1 ax ar ao2 b24 0 c24 1 ct 1 cx 1 cr 0 co2 lvt _ ln5 H5 zO (hsaA.mono (hle1.trans (hle2.trans (hle3.trans (hle4.trans hle5))))) hvt tokB (by decide +kernel)
  refine sy fun b12 => ?_; refine yq2 ?_; refine J18 ?_; refine T.again ?_; refine J15 ?_; refine sv (PV.sliceStrL rfl rfl zO) ?_; refine T.callV Wanted.none rfl rfl (ct5 H5) ?_; refine J6 ?_
  refine J6 ?_; refine T.front lvt (Pick.leave (Pick.leave (Pick.leave Pick.allA))) ?_; refine T.callW Wanted.none rfl rfl hl5 (Pick.takeA (Pick.leave (Pick.take Pick.nil))) ?_
  rintro _ H6 l6 hle6 ⟨rfl, at2, ct2, lvt2, v2, hvt2, hv2, rfl⟩
  refine T.ownE (by rw [List.append_assoc, List.cons_append, List.nil_append]) ?_; refine T.freezeP (lv := lvt2) hvt2 Pick.allA ?_
  intro H7 hle7 hst
  obtain ⟨bt, cbt, e7⟩ := hvt2.ptr zO
  injection e7 with e7 e8 e9
  subst e7 e9
  have hl6 := line6_fn b7 (some ⟨b24, 0, none⟩) ax (some ⟨bt, 0, none⟩) ao2 ar 1 c24 cx ct2 co2 1 cr lvx H7 hvx
  refine sy fun b12 => ?_; refine yq2 ?_; refine J18 ?_; refine T.again ?_; refine J15 ?_; refine sv (PV.sliceStrL rfl rfl zO) ?_; refine T.callV Wanted.none rfl rfl (ct6 H7) ?_; refine J6 ?_
  refine J6 ?_; refine T.front lvx (Pick.leave (Pick.leave (Pick.leave (Pick.leave (Pick.leave (Pick.leave Pick.allA)))))) ?_; refine T.callW Wanted.none rfl rfl hl6 (Pick.takeA (Pick.leave (Pick.take Pick.nil))) ?_
  rintro _ H8 l8 hle8 ⟨rfl, lvx2, hvx2, rfl⟩
  refine T.ownE (by rw [List.append_assoc, List.cons_append, List.nil_append]) ?_
  obtain ⟨bx, cbx, e7⟩ := hvx2.ptr zO
  injection e7 with e7 e8 e9
  subst e7 e9
  refine T.freezeP (lv := lvx2) hvx2 Pick.allA ?_
  intro H9 hle9 hsx
  have hso := sortReg_fn (.slice ar 1 cr) H9 (hsr.mono (hle6.trans (hle7.trans (hle8.trans hle9))))
  refine sy fun b12 => ?_; refine yq2 ?_; refine J18 ?_; refine T.again ?_; refine J23 ?_; refine T.call Wanted.none rfl rfl hso ?_
  rintro u H10 hle10 ⟨adu, capu, hsu⟩
  obtain ⟨aur, cur, rfl⟩ := hsu.len
  obtain ⟨br, or, rfl, _⟩ := RowL.at (l := [(⟨bS, 0, 1, .slice adu 0 capu, []⟩ : Rg)]) encRg_len hsu (i := 0) rfl
  refine J2 ?_; refine yq1 ?_; refine J4 ?_; refine sv (PV.loadAgg rfl zq0 zX zX) ?_; refine yq39 ?_; refine yq2 ?_; refine yq2 ?_; refine J2 ?_
  exact T.retF (Lv.fin (RV.cct rfl (by exact CV.agg rfl zq0 zX) (by exact CV.agg rfl zq0 zX) rfl) ⟨_, _, _, _, _, _, _, _, _, _, _, _, rfl, hsaA.mono (hle1.trans (hle2.trans (hle3.trans (hle4.trans (hle5.trans (hle6.trans (hle7.trans (hle8.trans (hle9.trans hle10))))))))), ⟨_, _, hst.mono (hle8.trans (hle9.trans hle10)), SlR.mono hv1 (hle4.trans (hle5.trans (hle6.trans (hle7.trans (hle8.trans (hle9.trans hle10)))))), SlR.mono hv2 (hle7.trans (hle8.trans (hle9.trans hle10)))⟩, hsx.mono hle10, _, _, hsu⟩)

end Go.Proofs.YtecogbhbkccblaaGreatDoor
namespace Go.Proofs.YtecogbhbkccblaaGreatDoor
open Go.RowKit


set_option maxRecDepth 100000 in
theorem awake_fn (H : Hp) : Fn Tryz.prog 22 #[] H (fun u _ => u = .bool true) := by
  refine Fn.of_T (vs := []) Tryz.func22 rfl rfl fun w => ?_; refine J6 ?_; refine yq39 ?_; (refine T.buildSlice Wanted.none rfl rfl zq11 zX zX ?_; intro b9)
  have hva : Vec 105 2 (.slice (some ⟨b9, 0, none⟩) 1 1) [(b9, .cells ([Value.string bWord, Value.bool false] ++ []).toArray 105 (0, 0))] 1 [.string bWord, .bool false] := ⟨rfl, .inr ⟨b9, 1, _, rfl, rfl, Nat.le_refl _, by decide, by simp, rfl⟩⟩
  refine T.freezeP (lv := [(b9, .cells ([Value.string bWord, Value.bool false] ++ []).toArray 105 (0, 0))]) hva Pick.all ?_
  intro H1 hle1 hsa
  refine T.call Wanted.none rfl rfl (parse_ex b9 0 1 H1 hsa) ?_
  rintro _ H2 hle2 ⟨ba, oa, cva, bt, ot, ct, bx, ox, cx, br, or, cr, rfl, hex⟩
  have hva := validate1_fn hex
  obtain ⟨_, _, _, ad, cap, hvr⟩ := hex
  obtain ⟨_, _, e, hsub⟩ := RowL.at (l := [(⟨bS, 0, 1, .slice ad 0 cap, []⟩ : Rg)]) encRg_len hvr (i := 0) rfl
  injection e with e
  injection e with e1 e2
  subst e1 e2
  unfold encRg at hsub
  refine J4 ?_; refine sy fun b1 => ?_; refine sy fun b2 => ?_; refine yq2 ?_; refine yq2 ?_; refine J5 ?_; refine T.callV Wanted.none rfl rfl (hva) ?_; refine J14 ?_; refine gv (PV.build rfl zq12) ?_; refine gv (PV.aeql rfl rfl rfl rfl) ?_; refine J14 ?_
  refine J12 ?_; refine gv (PV.loadSub rfl zA rfl) ?_; refine J4 ?_
  exact T.retF (Lv.fin (RV.tmp rfl rfl) rfl)

end Go.Proofs.YtecogbhbkccblaaGreatDoor
