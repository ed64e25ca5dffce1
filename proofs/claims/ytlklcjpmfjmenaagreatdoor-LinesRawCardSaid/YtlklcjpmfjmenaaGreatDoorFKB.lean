/- lines: Make: the program, the reference. -/
import Derived.Test.YtlklcjpmfjmenaaGreatDoorGJ
namespace Go.Proofs.YtlklcjpmfjmenaaGreatDoor
open Go.RowKit

def zeroLn : Ln := ⟨bs [], 0, [], [], []⟩
def mkO (c : Cp) (m : Mt) (a l r : Int) : Ln × Int :=
  if a < 0 ∨ (c.att.length : Int) ≤ a ∨ l < 0 ∨ 100 < l ∨ r < 0 ∨ 100 < r then (zeroLn, 1) else match fitO c m with
  | none => (zeroLn, 8)
  | some t => (lnO c m t a (max t.b (m.b - l)) (min t.e (m.e + r)), 0)
theorem fitO_find {c : Cp} {m : Mt} {t : Rg} (hf : fitO c m = some t) : c.tx.find? (inT m.b) = some t := by
  unfold fitO at hf
  cases hfd : c.tx.find? (inT m.b) with
  | none => rw [hfd] at hf; cases hf
  | some t' =>
    rw [hfd] at hf
    dsimp only at hf
    split at hf
    · exact hf
    · cases hf
set_option maxHeartbeats 1000000 in
theorem make_in (c : Cp) (m : Mt) (a l r : Int) (H : Hp) (hc : CpL H c) (hw : CpW c) (hm : LabOk H m) (hl : m.ls.length ≤ 1000) :
    Fn Tryz.prog 8 #[cpV c, mtV m, .int .i64 a, .int .i64 l, .int .i64 r] H (fun u H' => ∃ v, u = .tuple #[v, .int .i64 (mkO c m a l r).2] ∧ LnR H' v (mkO c m a l r).1) := by
  have hlt := hc.lt
  obtain ⟨aa, ca, hva⟩ := hc.a.len
  have hla := hc.la
  obtain ⟨al, cl, hmv⟩ := hm.1.len
  have hfi := fits_in c m H hc hw hm hl
  have hz : LnR H (.agg #[.string (bs []), .int .i64 0, .slice none 0 0, .slice none 0 0, .slice none 0 0]) zeroLn := ⟨_, _, _, rfl, SlR.empty, SlR.empty, SlR.empty⟩
  unfold cpV mtV at hfi
  unfold cpV mtV
  rw [hva, hmv] at hfi ⊢
  refine Fn.of_T (vs := [.agg #[.slice aa c.att.length ca, c.vt, c.vx, c.vr, c.vn, c.vh, c.vs], .agg #[.int .i64 m.b, .int .i64 m.e, .slice al m.ls.length cl], .int .i64 a, .int .i64 l, .int .i64 r]) Tryz.func8 rfl rfl fun w => ?_
  by_cases h1 : a < 0
  · refine sq ?_
    refine sr ?_
    (refine T.box Wanted.none rfl rfl zq15 ?_; intro b5)
    (refine T.box Wanted.none rfl rfl zq15 ?_; intro b6)
    refine sy fun b10 => ?_
    refine sa ?_
    refine so ?_
    refine sq ?_
    refine sq ?_
    refine sr ?_
    refine sm ?_
    refine sv (PV.lss rfl rfl) ?_
    refine sm ?_
    refine T.setT (d := 16) rfl (by omega) ?_
    refine sp ?_
    refine sp ?_
    refine sp ?_
    refine sp ?_
    refine sp ?_
    refine sT ?_
    refine sm ?_
    refine sp ?_
    refine sp ?_
    refine sT ?_
    refine sm ?_
    refine sp ?_
    refine sp ?_
    refine sT ?_
    refine sm ?_
    refine sp ?_
    refine sp ?_
    refine sT ?_
    refine sm ?_
    refine sp ?_
    refine sp ?_
    refine sT ?_
    refine so ?_
    refine T.condT rfl rfl ?_
    refine sq ?_
    refine sr ?_
    refine sv (PV.build rfl zq12) ?_
    refine T.storeA Wanted.none rfl rfl zq8 (by exact rfl) zq14 zq13 ?_
    refine sa ?_
    refine so ?_
    exact T.retF (Lv.fin (RV.cellTmp rfl zq7 rfl) (by unfold mkO; rw [if_pos (by omega)]; exact ⟨_, rfl, hz⟩))
  by_cases h2 : (c.att.length : Int) ≤ a
  · refine sq ?_
    refine sr ?_
    (refine T.box Wanted.none rfl rfl zq15 ?_; intro b5)
    (refine T.box Wanted.none rfl rfl zq15 ?_; intro b6)
    refine sy fun b10 => ?_
    refine sa ?_
    refine so ?_
    refine sq ?_
    refine sq ?_
    refine sr ?_
    refine sm ?_
    refine sv (PV.lss rfl rfl) ?_
    refine sm ?_
    refine T.setF (d := 16) rfl (by omega) ?_
    refine gm ?_
    refine gf ?_
    refine gl ?_
    refine gv (PV.lenSl rfl) ?_
    refine gv (PV.geq rfl rfl) ?_
    refine sF ?_
    refine sm ?_
    refine T.setT (d := 23) rfl (by omega) ?_
    refine sp ?_
    refine sp ?_
    refine sT ?_
    refine sm ?_
    refine sp ?_
    refine sp ?_
    refine sT ?_
    refine sm ?_
    refine sp ?_
    refine sp ?_
    refine sT ?_
    refine sm ?_
    refine sp ?_
    refine sp ?_
    refine sT ?_
    refine so ?_
    refine T.condT rfl rfl ?_
    refine sq ?_
    refine sr ?_
    refine sv (PV.build rfl zq12) ?_
    refine T.storeA Wanted.none rfl rfl zq8 (by exact rfl) zq14 zq13 ?_
    refine sa ?_
    refine so ?_
    exact T.retF (Lv.fin (RV.cellTmp rfl zq7 rfl) (by unfold mkO; rw [if_pos (by omega)]; exact ⟨_, rfl, hz⟩))
  by_cases h3 : l < 0
  · refine sq ?_
    refine sr ?_
    (refine T.box Wanted.none rfl rfl zq15 ?_; intro b5)
    (refine T.box Wanted.none rfl rfl zq15 ?_; intro b6)
    refine sy fun b10 => ?_
    refine sa ?_
    refine so ?_
    refine sq ?_
    refine sq ?_
    refine sr ?_
    refine sm ?_
    refine sv (PV.lss rfl rfl) ?_
    refine sm ?_
    refine T.setF (d := 16) rfl (by omega) ?_
    refine gm ?_
    refine gf ?_
    refine gl ?_
    refine gv (PV.lenSl rfl) ?_
    refine gv (PV.geq rfl rfl) ?_
    refine sF ?_
    refine sm ?_
    refine T.setF (d := 23) rfl (by omega) ?_
    refine gm ?_
    refine gv (PV.lss rfl rfl) ?_
    refine sF ?_
    refine sm ?_
    refine T.setT (d := 27) rfl (by omega) ?_
    refine sp ?_
    refine sp ?_
    refine sT ?_
    refine sm ?_
    refine sp ?_
    refine sp ?_
    refine sT ?_
    refine sm ?_
    refine sp ?_
    refine sp ?_
    refine sT ?_
    refine so ?_
    refine T.condT rfl rfl ?_
    refine sq ?_
    refine sr ?_
    refine sv (PV.build rfl zq12) ?_
    refine T.storeA Wanted.none rfl rfl zq8 (by exact rfl) zq14 zq13 ?_
    refine sa ?_
    refine so ?_
    exact T.retF (Lv.fin (RV.cellTmp rfl zq7 rfl) (by unfold mkO; rw [if_pos (by omega)]; exact ⟨_, rfl, hz⟩))
  by_cases h4 : 100 < l
  · refine sq ?_
    refine sr ?_
    (refine T.box Wanted.none rfl rfl zq15 ?_; intro b5)
    (refine T.box Wanted.none rfl rfl zq15 ?_; intro b6)
    refine sy fun b10 => ?_
    refine sa ?_
    refine so ?_
    refine sq ?_
    refine sq ?_
    refine sr ?_
    refine sm ?_
    refine sv (PV.lss rfl rfl) ?_
    refine sm ?_
    refine T.setF (d := 16) rfl (by omega) ?_
    refine gm ?_
    refine gf ?_
    refine gl ?_
    refine gv (PV.lenSl rfl) ?_
    refine gv (PV.geq rfl rfl) ?_
    refine sF ?_
    refine sm ?_
    refine T.setF (d := 23) rfl (by omega) ?_
    refine gm ?_
    refine gv (PV.lss rfl rfl) ?_
    refine sF ?_
    refine sm ?_
    refine T.setF (d := 27) rfl (by omega) ?_
    refine gm ?_
    refine gv (PV.gtr rfl rfl) ?_
    refine sF ?_
    refine sm ?_
    refine T.setT (d := 31) rfl (by omega) ?_
    refine sp ?_
    refine sp ?_
    refine sT ?_
    refine sm ?_
    refine sp ?_
    refine sp ?_
    refine sT ?_
    refine so ?_
    refine T.condT rfl rfl ?_
    refine sq ?_
    refine sr ?_
    refine sv (PV.build rfl zq12) ?_
    refine T.storeA Wanted.none rfl rfl zq8 (by exact rfl) zq14 zq13 ?_
    refine sa ?_
    refine so ?_
    exact T.retF (Lv.fin (RV.cellTmp rfl zq7 rfl) (by unfold mkO; rw [if_pos (by omega)]; exact ⟨_, rfl, hz⟩))
  by_cases h5 : r < 0
  · refine sq ?_
    refine sr ?_
    (refine T.box Wanted.none rfl rfl zq15 ?_; intro b5)
    (refine T.box Wanted.none rfl rfl zq15 ?_; intro b6)
    refine sy fun b10 => ?_
    refine sa ?_
    refine so ?_
    refine sq ?_
    refine sq ?_
    refine sr ?_
    refine sm ?_
    refine sv (PV.lss rfl rfl) ?_
    refine sm ?_
    refine T.setF (d := 16) rfl (by omega) ?_
    refine gm ?_
    refine gf ?_
    refine gl ?_
    refine gv (PV.lenSl rfl) ?_
    refine gv (PV.geq rfl rfl) ?_
    refine sF ?_
    refine sm ?_
    refine T.setF (d := 23) rfl (by omega) ?_
    refine gm ?_
    refine gv (PV.lss rfl rfl) ?_
    refine sF ?_
    refine sm ?_
    refine T.setF (d := 27) rfl (by omega) ?_
    refine gm ?_
    refine gv (PV.gtr rfl rfl) ?_
    refine sF ?_
    refine sm ?_
    refine T.setF (d := 31) rfl (by omega) ?_
    refine gm ?_
    refine gv (PV.lss rfl rfl) ?_
    refine sF ?_
    refine sm ?_
    refine T.setT (d := 35) rfl (by omega) ?_
    refine sp ?_
    refine sp ?_
    refine sT ?_
    refine so ?_
    refine T.condT rfl rfl ?_
    refine sq ?_
    refine sr ?_
    refine sv (PV.build rfl zq12) ?_
    refine T.storeA Wanted.none rfl rfl zq8 (by exact rfl) zq14 zq13 ?_
    refine sa ?_
    refine so ?_
    exact T.retF (Lv.fin (RV.cellTmp rfl zq7 rfl) (by unfold mkO; rw [if_pos (by omega)]; exact ⟨_, rfl, hz⟩))
  by_cases h6 : 100 < r
  · refine sq ?_
    refine sr ?_
    (refine T.box Wanted.none rfl rfl zq15 ?_; intro b5)
    (refine T.box Wanted.none rfl rfl zq15 ?_; intro b6)
    refine sy fun b10 => ?_
    refine sa ?_
    refine so ?_
    refine sq ?_
    refine sq ?_
    refine sr ?_
    refine sm ?_
    refine sv (PV.lss rfl rfl) ?_
    refine sm ?_
    refine T.setF (d := 16) rfl (by omega) ?_
    refine gm ?_
    refine gf ?_
    refine gl ?_
    refine gv (PV.lenSl rfl) ?_
    refine gv (PV.geq rfl rfl) ?_
    refine sF ?_
    refine sm ?_
    refine T.setF (d := 23) rfl (by omega) ?_
    refine gm ?_
    refine gv (PV.lss rfl rfl) ?_
    refine sF ?_
    refine sm ?_
    refine T.setF (d := 27) rfl (by omega) ?_
    refine gm ?_
    refine gv (PV.gtr rfl rfl) ?_
    refine sF ?_
    refine sm ?_
    refine T.setF (d := 31) rfl (by omega) ?_
    refine gm ?_
    refine gv (PV.lss rfl rfl) ?_
    refine sF ?_
    refine sm ?_
    refine T.setF (d := 35) rfl (by omega) ?_
    refine gm ?_
    refine gv (PV.gtr rfl rfl) ?_
    refine sF ?_
    refine so ?_
    refine sc rfl (by omega) ?_
    refine sq ?_
    refine sr ?_
    refine sv (PV.build rfl zq12) ?_
    refine T.storeA Wanted.none rfl rfl zq8 (by exact rfl) zq14 zq13 ?_
    refine sa ?_
    refine so ?_
    exact T.retF (Lv.fin (RV.cellTmp rfl zq7 rfl) (by unfold mkO; rw [if_pos (by omega)]; exact ⟨_, rfl, hz⟩))
  have hk : mkO c m a l r = match fitO c m with | none => (zeroLn, 8) | some t => (lnO c m t a (max t.b (m.b - l)) (min t.e (m.e + r)), 0) := by unfold mkO; rw [if_neg (by omega)]
  cases hf : fitO c m with
  | none =>
    rw [hf] at hfi hk
    change Fn _ _ _ _ (fun u _ => u = .tuple #[.agg #[.string (bs []), .int .i64 0, .int .i64 0, .slice none 0 0], .bool false]) at hfi
    refine sq ?_
    refine sr ?_
    (refine T.box Wanted.none rfl rfl zq15 ?_; intro b5)
    (refine T.box Wanted.none rfl rfl zq15 ?_; intro b6)
    refine sy fun b10 => ?_
    refine sa ?_
    refine so ?_
    refine sq ?_
    refine sq ?_
    refine sr ?_
    refine sm ?_
    refine sv (PV.lss rfl rfl) ?_
    refine sm ?_
    refine T.setF (d := 16) rfl (by omega) ?_
    refine gm ?_
    refine gf ?_
    refine gl ?_
    refine gv (PV.lenSl rfl) ?_
    refine gv (PV.geq rfl rfl) ?_
    refine sF ?_
    refine sm ?_
    refine T.setF (d := 23) rfl (by omega) ?_
    refine gm ?_
    refine gv (PV.lss rfl rfl) ?_
    refine sF ?_
    refine sm ?_
    refine T.setF (d := 27) rfl (by omega) ?_
    refine gm ?_
    refine gv (PV.gtr rfl rfl) ?_
    refine sF ?_
    refine sm ?_
    refine T.setF (d := 31) rfl (by omega) ?_
    refine gm ?_
    refine gv (PV.lss rfl rfl) ?_
    refine sF ?_
    refine sm ?_
    refine T.setF (d := 35) rfl (by omega) ?_
    refine gm ?_
    refine gv (PV.gtr rfl rfl) ?_
    refine sF ?_
    refine so ?_
    refine sd rfl (by omega) ?_
    refine T.skip ?_
    refine sq ?_
    refine sr ?_
    refine sv (PV.loadAll rfl zq0 (by exact rfl)) ?_
    refine sv (PV.loadAll rfl zq0 (by exact rfl)) ?_
    refine T.callV Wanted.none rfl rfl (hfi) ?_
    refine sm ?_
    refine sv (PV.extract rfl rfl) ?_
    refine sv (PV.extract rfl rfl) ?_
    refine sy fun b12 => ?_
    refine T.storeA Wanted.none rfl rfl zq8 (by exact rfl) zq14 zq13 ?_
    refine sa ?_
    refine so ?_
    refine sq ?_
    refine sq ?_
    refine sr ?_
    refine sm ?_
    refine sv (PV.not rfl) ?_
    refine so ?_
    refine T.condT rfl rfl ?_
    refine sq ?_
    refine sr ?_
    refine sv (PV.build rfl zq12) ?_
    refine T.storeA Wanted.none rfl rfl zq8 (by exact rfl) zq14 zq13 ?_
    refine sa ?_
    refine so ?_
    exact T.retF (Lv.fin (RV.cellTmp rfl zq7 rfl) (by rw [hk]; exact ⟨_, rfl, hz⟩))
  | some t =>
    rw [hf] at hk
    have hfp := fitP hw hf
    have hmem := (fitO_some hw hf).1
    have hrg := hc.x.2 t hmem
    obtain ⟨am, cm, hkv⟩ := hrg.1.len
    rw [hf, Option.getD_some] at hfi
    unfold rgV at hfi
    rw [hkv] at hfi
    change Fn _ _ _ _ (fun u _ => u = .tuple #[.agg #[.string t.ty, .int .i64 t.b, .int .i64 t.e, .slice am t.ks.length cm], .bool true]) at hfi
    have hli := line_in c m t a (max t.b (m.b - l)) (min t.e (m.e + r)) H hc hw hfp ⟨by have := hfp.t0; omega, by have := hfp.tn; omega⟩ ⟨by omega, by omega⟩
    obtain ⟨f1, f2, f3, f4, f5, f6⟩ := hfp
    unfold cpV mtV rgV at hli
    rw [hva, hmv, hkv] at hli
    refine sq ?_
    refine sr ?_
    (refine T.box Wanted.none rfl rfl zq15 ?_; intro b5)
    (refine T.box Wanted.none rfl rfl zq15 ?_; intro b6)
    refine sy fun b10 => ?_
    refine sa ?_
    refine so ?_
    refine sq ?_
    refine sq ?_
    refine sr ?_
    refine sm ?_
    refine sv (PV.lss rfl rfl) ?_
    refine sm ?_
    refine T.setF (d := 16) rfl (by omega) ?_
    refine gm ?_
    refine gf ?_
    refine gl ?_
    refine gv (PV.lenSl rfl) ?_
    refine gv (PV.geq rfl rfl) ?_
    refine sF ?_
    refine sm ?_
    refine T.setF (d := 23) rfl (by omega) ?_
    refine gm ?_
    refine gv (PV.lss rfl rfl) ?_
    refine sF ?_
    refine sm ?_
    refine T.setF (d := 27) rfl (by omega) ?_
    refine gm ?_
    refine gv (PV.gtr rfl rfl) ?_
    refine sF ?_
    refine sm ?_
    refine T.setF (d := 31) rfl (by omega) ?_
    refine gm ?_
    refine gv (PV.lss rfl rfl) ?_
    refine sF ?_
    refine sm ?_
    refine T.setF (d := 35) rfl (by omega) ?_
    refine gm ?_
    refine gv (PV.gtr rfl rfl) ?_
    refine sF ?_
    refine so ?_
    refine sd rfl (by omega) ?_
    refine T.skip ?_
    refine sq ?_
    refine sr ?_
    refine sv (PV.loadAll rfl zq0 (by exact rfl)) ?_
    refine sv (PV.loadAll rfl zq0 (by exact rfl)) ?_
    refine T.callV Wanted.none rfl rfl (hfi) ?_
    refine sm ?_
    refine sv (PV.extract rfl rfl) ?_
    refine sv (PV.extract rfl rfl) ?_
    refine sy fun b12 => ?_
    refine T.storeA Wanted.none rfl rfl zq8 (by exact rfl) zq14 zq13 ?_
    refine sa ?_
    refine so ?_
    refine sq ?_
    refine sq ?_
    refine sr ?_
    refine sm ?_
    refine sv (PV.not rfl) ?_
    refine so ?_
    refine T.condF rfl rfl ?_
    refine T.skip ?_
    refine sq ?_
    refine sr ?_
    refine sv (PV.loadAll rfl zq0 (by exact rfl)) ?_
    refine sv (PV.loadAll rfl zq0 (by exact rfl)) ?_
    refine sv (PV.loadAll rfl zq0 (by exact rfl)) ?_
    refine sm ?_
    refine sf ?_
    refine sl ?_
    refine sf ?_
    refine sl ?_
    refine sm ?_
    refine sv (PV.sub rfl rfl (by omega)) ?_
    refine sv (PV.max2 rfl rfl) ?_
    refine sf ?_
    refine sl ?_
    refine sf ?_
    refine sl ?_
    refine sm ?_
    refine sv (PV.add rfl rfl (by omega)) ?_
    refine sv (PV.min2 rfl rfl) ?_
    (refine T.call Wanted.none rfl rfl hli ?_; rintro _ H67 hle67 ⟨v1, v2, v3, rfl, k1, k2, k3⟩; obtain ⟨ad1, cap1, rfl⟩ := k1.len; obtain ⟨ad2, cap2, rfl⟩ := k2.len; obtain ⟨ad3, cap3, rfl⟩ := k3.len)
    refine T.storeA Wanted.none rfl rfl zq8 (by exact rfl) zq14 zq13 ?_
    refine sa ?_
    refine so ?_
    exact T.retF (Lv.fin (RV.cellTmp rfl zq7 rfl) (by rw [hk]; exact ⟨_, rfl, _, _, _, rfl, k1, k2, k3⟩))
set_option maxHeartbeats 1000000 in
theorem make_ref (c : Cp) (m : Mt) (a l r : Int) (H : Hp) (hc : CpL H c) (hw : CpW c) (hm : LabOk H m) (hl : m.ls.length ≤ 1000) :
    Fn Tryz.prog 9 #[cpV c, mtV m, .int .i64 a, .int .i64 l, .int .i64 r] H (fun u H' => ∃ v, u = .tuple #[v, .int .i64 (mkO c m a l r).2] ∧ LnR H' v (mkO c m a l r).1) := by
  have hlt := hc.lt
  obtain ⟨aa, ca, hva⟩ := hc.a.len
  have hla := hc.la
  obtain ⟨al, cl, hmv⟩ := hm.1.len
  have hfi := fits_ref c m H hc hm hl
  have hz : LnR H (.agg #[.string (bs []), .int .i64 0, .slice none 0 0, .slice none 0 0, .slice none 0 0]) zeroLn := ⟨_, _, _, rfl, SlR.empty, SlR.empty, SlR.empty⟩
  unfold cpV mtV at hfi
  unfold cpV mtV
  rw [hva, hmv] at hfi ⊢
  refine Fn.of_T (vs := [.agg #[.slice aa c.att.length ca, c.vt, c.vx, c.vr, c.vn, c.vh, c.vs], .agg #[.int .i64 m.b, .int .i64 m.e, .slice al m.ls.length cl], .int .i64 a, .int .i64 l, .int .i64 r]) Tryz.func9 rfl rfl fun w => ?_
  by_cases h1 : a < 0
  · refine sq ?_
    refine sr ?_
    (refine T.box Wanted.none rfl rfl zq15 ?_; intro b5)
    (refine T.box Wanted.none rfl rfl zq15 ?_; intro b6)
    refine sy fun b10 => ?_
    refine sa ?_
    refine so ?_
    refine sq ?_
    refine sq ?_
    refine sr ?_
    refine sm ?_
    refine sv (PV.lss rfl rfl) ?_
    refine sm ?_
    refine T.setT (d := 16) rfl (by omega) ?_
    refine sp ?_
    refine sp ?_
    refine sp ?_
    refine sp ?_
    refine sp ?_
    refine sT ?_
    refine sm ?_
    refine sp ?_
    refine sp ?_
    refine sT ?_
    refine sm ?_
    refine sp ?_
    refine sp ?_
    refine sT ?_
    refine sm ?_
    refine sp ?_
    refine sp ?_
    refine sT ?_
    refine sm ?_
    refine sp ?_
    refine sp ?_
    refine sT ?_
    refine so ?_
    refine T.condT rfl rfl ?_
    refine sq ?_
    refine sr ?_
    refine sv (PV.build rfl zq12) ?_
    refine T.storeA Wanted.none rfl rfl zq8 (by exact rfl) zq14 zq13 ?_
    refine sa ?_
    refine so ?_
    exact T.retF (Lv.fin (RV.cellTmp rfl zq7 rfl) (by unfold mkO; rw [if_pos (by omega)]; exact ⟨_, rfl, hz⟩))
  by_cases h2 : (c.att.length : Int) ≤ a
  · refine sq ?_
    refine sr ?_
    (refine T.box Wanted.none rfl rfl zq15 ?_; intro b5)
    (refine T.box Wanted.none rfl rfl zq15 ?_; intro b6)
    refine sy fun b10 => ?_
    refine sa ?_
    refine so ?_
    refine sq ?_
    refine sq ?_
    refine sr ?_
    refine sm ?_
    refine sv (PV.lss rfl rfl) ?_
    refine sm ?_
    refine T.setF (d := 16) rfl (by omega) ?_
    refine gm ?_
    refine gf ?_
    refine gl ?_
    refine gv (PV.lenSl rfl) ?_
    refine gv (PV.geq rfl rfl) ?_
    refine sF ?_
    refine sm ?_
    refine T.setT (d := 23) rfl (by omega) ?_
    refine sp ?_
    refine sp ?_
    refine sT ?_
    refine sm ?_
    refine sp ?_
    refine sp ?_
    refine sT ?_
    refine sm ?_
    refine sp ?_
    refine sp ?_
    refine sT ?_
    refine sm ?_
    refine sp ?_
    refine sp ?_
    refine sT ?_
    refine so ?_
    refine T.condT rfl rfl ?_
    refine sq ?_
    refine sr ?_
    refine sv (PV.build rfl zq12) ?_
    refine T.storeA Wanted.none rfl rfl zq8 (by exact rfl) zq14 zq13 ?_
    refine sa ?_
    refine so ?_
    exact T.retF (Lv.fin (RV.cellTmp rfl zq7 rfl) (by unfold mkO; rw [if_pos (by omega)]; exact ⟨_, rfl, hz⟩))
  by_cases h3 : l < 0
  · refine sq ?_
    refine sr ?_
    (refine T.box Wanted.none rfl rfl zq15 ?_; intro b5)
    (refine T.box Wanted.none rfl rfl zq15 ?_; intro b6)
    refine sy fun b10 => ?_
    refine sa ?_
    refine so ?_
    refine sq ?_
    refine sq ?_
    refine sr ?_
    refine sm ?_
    refine sv (PV.lss rfl rfl) ?_
    refine sm ?_
    refine T.setF (d := 16) rfl (by omega) ?_
    refine gm ?_
    refine gf ?_
    refine gl ?_
    refine gv (PV.lenSl rfl) ?_
    refine gv (PV.geq rfl rfl) ?_
    refine sF ?_
    refine sm ?_
    refine T.setF (d := 23) rfl (by omega) ?_
    refine gm ?_
    refine gv (PV.lss rfl rfl) ?_
    refine sF ?_
    refine sm ?_
    refine T.setT (d := 27) rfl (by omega) ?_
    refine sp ?_
    refine sp ?_
    refine sT ?_
    refine sm ?_
    refine sp ?_
    refine sp ?_
    refine sT ?_
    refine sm ?_
    refine sp ?_
    refine sp ?_
    refine sT ?_
    refine so ?_
    refine T.condT rfl rfl ?_
    refine sq ?_
    refine sr ?_
    refine sv (PV.build rfl zq12) ?_
    refine T.storeA Wanted.none rfl rfl zq8 (by exact rfl) zq14 zq13 ?_
    refine sa ?_
    refine so ?_
    exact T.retF (Lv.fin (RV.cellTmp rfl zq7 rfl) (by unfold mkO; rw [if_pos (by omega)]; exact ⟨_, rfl, hz⟩))
  by_cases h4 : 100 < l
  · refine sq ?_
    refine sr ?_
    (refine T.box Wanted.none rfl rfl zq15 ?_; intro b5)
    (refine T.box Wanted.none rfl rfl zq15 ?_; intro b6)
    refine sy fun b10 => ?_
    refine sa ?_
    refine so ?_
    refine sq ?_
    refine sq ?_
    refine sr ?_
    refine sm ?_
    refine sv (PV.lss rfl rfl) ?_
    refine sm ?_
    refine T.setF (d := 16) rfl (by omega) ?_
    refine gm ?_
    refine gf ?_
    refine gl ?_
    refine gv (PV.lenSl rfl) ?_
    refine gv (PV.geq rfl rfl) ?_
    refine sF ?_
    refine sm ?_
    refine T.setF (d := 23) rfl (by omega) ?_
    refine gm ?_
    refine gv (PV.lss rfl rfl) ?_
    refine sF ?_
    refine sm ?_
    refine T.setF (d := 27) rfl (by omega) ?_
    refine gm ?_
    refine gv (PV.gtr rfl rfl) ?_
    refine sF ?_
    refine sm ?_
    refine T.setT (d := 31) rfl (by omega) ?_
    refine sp ?_
    refine sp ?_
    refine sT ?_
    refine sm ?_
    refine sp ?_
    refine sp ?_
    refine sT ?_
    refine so ?_
    refine T.condT rfl rfl ?_
    refine sq ?_
    refine sr ?_
    refine sv (PV.build rfl zq12) ?_
    refine T.storeA Wanted.none rfl rfl zq8 (by exact rfl) zq14 zq13 ?_
    refine sa ?_
    refine so ?_
    exact T.retF (Lv.fin (RV.cellTmp rfl zq7 rfl) (by unfold mkO; rw [if_pos (by omega)]; exact ⟨_, rfl, hz⟩))
  by_cases h5 : r < 0
  · refine sq ?_
    refine sr ?_
    (refine T.box Wanted.none rfl rfl zq15 ?_; intro b5)
    (refine T.box Wanted.none rfl rfl zq15 ?_; intro b6)
    refine sy fun b10 => ?_
    refine sa ?_
    refine so ?_
    refine sq ?_
    refine sq ?_
    refine sr ?_
    refine sm ?_
    refine sv (PV.lss rfl rfl) ?_
    refine sm ?_
    refine T.setF (d := 16) rfl (by omega) ?_
    refine gm ?_
    refine gf ?_
    refine gl ?_
    refine gv (PV.lenSl rfl) ?_
    refine gv (PV.geq rfl rfl) ?_
    refine sF ?_
    refine sm ?_
    refine T.setF (d := 23) rfl (by omega) ?_
    refine gm ?_
    refine gv (PV.lss rfl rfl) ?_
    refine sF ?_
    refine sm ?_
    refine T.setF (d := 27) rfl (by omega) ?_
    refine gm ?_
    refine gv (PV.gtr rfl rfl) ?_
    refine sF ?_
    refine sm ?_
    refine T.setF (d := 31) rfl (by omega) ?_
    refine gm ?_
    refine gv (PV.lss rfl rfl) ?_
    refine sF ?_
    refine sm ?_
    refine T.setT (d := 35) rfl (by omega) ?_
    refine sp ?_
    refine sp ?_
    refine sT ?_
    refine so ?_
    refine T.condT rfl rfl ?_
    refine sq ?_
    refine sr ?_
    refine sv (PV.build rfl zq12) ?_
    refine T.storeA Wanted.none rfl rfl zq8 (by exact rfl) zq14 zq13 ?_
    refine sa ?_
    refine so ?_
    exact T.retF (Lv.fin (RV.cellTmp rfl zq7 rfl) (by unfold mkO; rw [if_pos (by omega)]; exact ⟨_, rfl, hz⟩))
  by_cases h6 : 100 < r
  · refine sq ?_
    refine sr ?_
    (refine T.box Wanted.none rfl rfl zq15 ?_; intro b5)
    (refine T.box Wanted.none rfl rfl zq15 ?_; intro b6)
    refine sy fun b10 => ?_
    refine sa ?_
    refine so ?_
    refine sq ?_
    refine sq ?_
    refine sr ?_
    refine sm ?_
    refine sv (PV.lss rfl rfl) ?_
    refine sm ?_
    refine T.setF (d := 16) rfl (by omega) ?_
    refine gm ?_
    refine gf ?_
    refine gl ?_
    refine gv (PV.lenSl rfl) ?_
    refine gv (PV.geq rfl rfl) ?_
    refine sF ?_
    refine sm ?_
    refine T.setF (d := 23) rfl (by omega) ?_
    refine gm ?_
    refine gv (PV.lss rfl rfl) ?_
    refine sF ?_
    refine sm ?_
    refine T.setF (d := 27) rfl (by omega) ?_
    refine gm ?_
    refine gv (PV.gtr rfl rfl) ?_
    refine sF ?_
    refine sm ?_
    refine T.setF (d := 31) rfl (by omega) ?_
    refine gm ?_
    refine gv (PV.lss rfl rfl) ?_
    refine sF ?_
    refine sm ?_
    refine T.setF (d := 35) rfl (by omega) ?_
    refine gm ?_
    refine gv (PV.gtr rfl rfl) ?_
    refine sF ?_
    refine so ?_
    refine sc rfl (by omega) ?_
    refine sq ?_
    refine sr ?_
    refine sv (PV.build rfl zq12) ?_
    refine T.storeA Wanted.none rfl rfl zq8 (by exact rfl) zq14 zq13 ?_
    refine sa ?_
    refine so ?_
    exact T.retF (Lv.fin (RV.cellTmp rfl zq7 rfl) (by unfold mkO; rw [if_pos (by omega)]; exact ⟨_, rfl, hz⟩))
  have hk : mkO c m a l r = match fitO c m with | none => (zeroLn, 8) | some t => (lnO c m t a (max t.b (m.b - l)) (min t.e (m.e + r)), 0) := by unfold mkO; rw [if_neg (by omega)]
  cases hf : fitO c m with
  | none =>
    rw [hf] at hfi hk
    change Fn _ _ _ _ (fun u _ => u = .bool false) at hfi
    refine sq ?_
    refine sr ?_
    (refine T.box Wanted.none rfl rfl zq15 ?_; intro b5)
    (refine T.box Wanted.none rfl rfl zq15 ?_; intro b6)
    refine sy fun b10 => ?_
    refine sa ?_
    refine so ?_
    refine sq ?_
    refine sq ?_
    refine sr ?_
    refine sm ?_
    refine sv (PV.lss rfl rfl) ?_
    refine sm ?_
    refine T.setF (d := 16) rfl (by omega) ?_
    refine gm ?_
    refine gf ?_
    refine gl ?_
    refine gv (PV.lenSl rfl) ?_
    refine gv (PV.geq rfl rfl) ?_
    refine sF ?_
    refine sm ?_
    refine T.setF (d := 23) rfl (by omega) ?_
    refine gm ?_
    refine gv (PV.lss rfl rfl) ?_
    refine sF ?_
    refine sm ?_
    refine T.setF (d := 27) rfl (by omega) ?_
    refine gm ?_
    refine gv (PV.gtr rfl rfl) ?_
    refine sF ?_
    refine sm ?_
    refine T.setF (d := 31) rfl (by omega) ?_
    refine gm ?_
    refine gv (PV.lss rfl rfl) ?_
    refine sF ?_
    refine sm ?_
    refine T.setF (d := 35) rfl (by omega) ?_
    refine gm ?_
    refine gv (PV.gtr rfl rfl) ?_
    refine sF ?_
    refine so ?_
    refine sd rfl (by omega) ?_
    refine T.skip ?_
    refine sq ?_
    refine sq ?_
    refine sr ?_
    refine sv (PV.loadAll rfl zq0 (by exact rfl)) ?_
    refine sv (PV.loadAll rfl zq0 (by exact rfl)) ?_
    refine T.callV Wanted.none rfl rfl (hfi) ?_
    refine sv (PV.not rfl) ?_
    refine so ?_
    refine T.condT rfl rfl ?_
    refine sq ?_
    refine sr ?_
    refine sv (PV.build rfl zq12) ?_
    refine T.storeA Wanted.none rfl rfl zq8 (by exact rfl) zq14 zq13 ?_
    refine sa ?_
    refine so ?_
    exact T.retF (Lv.fin (RV.cellTmp rfl zq7 rfl) (by rw [hk]; exact ⟨_, rfl, hz⟩))
  | some t =>
    rw [hf] at hk
    have hfp := fitP hw hf
    have hmem := (fitO_some hw hf).1
    have hrg := hc.x.2 t hmem
    obtain ⟨am, cm, hkv⟩ := hrg.1.len
    have htx := fitO_find hf
    have hxt := textOf_ref c m.b H hc
    rw [htx, Option.getD_some] at hxt
    unfold rgV cpV at hxt
    rw [hkv, hva] at hxt
    change Fn _ _ _ _ (fun u _ => u = .tuple #[.agg #[.string t.ty, .int .i64 t.b, .int .i64 t.e, .slice am t.ks.length cm], .bool true]) at hxt
    rw [hf] at hfi
    change Fn _ _ _ _ (fun u _ => u = .bool true) at hfi
    have hli := line_ref c m t a (max t.b (m.b - l)) (min t.e (m.e + r)) H hc hw hfp htx hrg ⟨by have := hfp.t0; omega, by have := hfp.tn; omega⟩ ⟨by omega, by omega⟩
    obtain ⟨f1, f2, f3, f4, f5, f6⟩ := hfp
    unfold cpV mtV  at hli
    rw [hva, hmv] at hli
    refine sq ?_
    refine sr ?_
    (refine T.box Wanted.none rfl rfl zq15 ?_; intro b5)
    (refine T.box Wanted.none rfl rfl zq15 ?_; intro b6)
    refine sy fun b10 => ?_
    refine sa ?_
    refine so ?_
    refine sq ?_
    refine sq ?_
    refine sr ?_
    refine sm ?_
    refine sv (PV.lss rfl rfl) ?_
    refine sm ?_
    refine T.setF (d := 16) rfl (by omega) ?_
    refine gm ?_
    refine gf ?_
    refine gl ?_
    refine gv (PV.lenSl rfl) ?_
    refine gv (PV.geq rfl rfl) ?_
    refine sF ?_
    refine sm ?_
    refine T.setF (d := 23) rfl (by omega) ?_
    refine gm ?_
    refine gv (PV.lss rfl rfl) ?_
    refine sF ?_
    refine sm ?_
    refine T.setF (d := 27) rfl (by omega) ?_
    refine gm ?_
    refine gv (PV.gtr rfl rfl) ?_
    refine sF ?_
    refine sm ?_
    refine T.setF (d := 31) rfl (by omega) ?_
    refine gm ?_
    refine gv (PV.lss rfl rfl) ?_
    refine sF ?_
    refine sm ?_
    refine T.setF (d := 35) rfl (by omega) ?_
    refine gm ?_
    refine gv (PV.gtr rfl rfl) ?_
    refine sF ?_
    refine so ?_
    refine sd rfl (by omega) ?_
    refine T.skip ?_
    refine sq ?_
    refine sq ?_
    refine sr ?_
    refine sv (PV.loadAll rfl zq0 (by exact rfl)) ?_
    refine sv (PV.loadAll rfl zq0 (by exact rfl)) ?_
    refine T.callV Wanted.none rfl rfl (hfi) ?_
    refine sv (PV.not rfl) ?_
    refine so ?_
    refine T.condF rfl rfl ?_
    refine T.skip ?_
    refine sq ?_
    refine sr ?_
    refine sv (PV.loadAll rfl zq0 (by exact rfl)) ?_
    refine sf ?_
    refine sl ?_
    refine T.callV Wanted.none rfl rfl (hxt) ?_
    refine sm ?_
    refine sv (PV.extract rfl rfl) ?_
    refine sv (PV.extract rfl rfl) ?_
    refine sy fun b12 => ?_
    refine T.storeA Wanted.none rfl rfl zq8 (by exact rfl) zq14 zq13 ?_
    refine sa ?_
    refine so ?_
    refine sq ?_
    refine sr ?_
    refine sv (PV.loadAll rfl zq0 (by exact rfl)) ?_
    refine sv (PV.loadAll rfl zq0 (by exact rfl)) ?_
    refine sm ?_
    refine sf ?_
    refine sl ?_
    refine sf ?_
    refine sl ?_
    refine sm ?_
    refine sv (PV.sub rfl rfl (by omega)) ?_
    refine sv (PV.max2 rfl rfl) ?_
    refine sf ?_
    refine sl ?_
    refine sf ?_
    refine sl ?_
    refine sm ?_
    refine sv (PV.add rfl rfl (by omega)) ?_
    refine sv (PV.min2 rfl rfl) ?_
    (refine T.call Wanted.none rfl rfl hli ?_; rintro _ H69 hle69 ⟨v1, v2, v3, rfl, k1, k2, k3⟩; obtain ⟨ad1, cap1, rfl⟩ := k1.len; obtain ⟨ad2, cap2, rfl⟩ := k2.len; obtain ⟨ad3, cap3, rfl⟩ := k3.len)
    refine T.storeA Wanted.none rfl rfl zq8 (by exact rfl) zq14 zq13 ?_
    refine sa ?_
    refine so ?_
    exact T.retF (Lv.fin (RV.cellTmp rfl zq7 rfl) (by rw [hk]; exact ⟨_, rfl, _, _, _, rfl, k1, k2, k3⟩))
end Go.Proofs.YtlklcjpmfjmenaaGreatDoor
