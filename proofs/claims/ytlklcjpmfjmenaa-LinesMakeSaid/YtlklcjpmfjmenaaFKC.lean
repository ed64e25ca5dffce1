/- lines: MakeRegion: the program, the reference. -/
import Derived.Test.YtlklcjpmfjmenaaFKB
import Derived.Test.YtlklcjpmfjmenaaFR4
namespace Go.Proofs.Ytlklcjpmfjmenaa
open Go.RowKit

def mrO (c : Cp) (m : Mt) (a : Int) (kd : ByteArray) : Ln × Int :=
  if a < 0 ∨ (c.att.length : Int) ≤ a then (zeroLn, 1) else match fitO c m with
  | none => (zeroLn, 8)
  | some t => if lastI c.rg kd (m.b, m.e) < 0 then (lnO c m t a t.b t.e, 0) else match c.rg[(lastI c.rg kd (m.b, m.e)).toNat]? with
    | none => (lnO c m t a t.b t.e, 0)
    | some r => (lnO c m t a r.b r.e, 0)
set_option maxHeartbeats 1000000 in
theorem makeRegion_in (c : Cp) (m : Mt) (a : Int) (kd : ByteArray) (H : Hp) (hc : CpL H c) (hw : CpW c) (hrb : ∀ r ∈ c.rg, 0 ≤ r.b ∧ r.e ≤ c.tk.length) (hm : LabOk H m) (hl : m.ls.length ≤ 1000) :
    Fn Try.prog 15 #[cpV c, mtV m, .int .i64 a, .string kd] H (fun u H' => ∃ v, u = .tuple #[v, .int .i64 (mrO c m a kd).2] ∧ LnR H' v (mrO c m a kd).1) := by
  have hlt := hc.lt
  obtain ⟨aa, ca, hva⟩ := hc.a.len
  obtain ⟨ar, cr, hvr⟩ := hc.r.1.len
  have hr := hc.r.1
  rw [hvr] at hr
  have hla := hc.la
  obtain ⟨al, cl, hmv⟩ := hm.1.len
  have hfi := fits_in c m H hc hw hm hl
  have hli := last_in c kd (m.b, m.e) H hc
  have hlr := lastI_range c.rg kd (m.b, m.e)
  have hz : LnR H (.agg #[.string (bs []), .int .i64 0, .slice none 0 0, .slice none 0 0, .slice none 0 0]) zeroLn := ⟨_, _, _, rfl, SlR.empty, SlR.empty, SlR.empty⟩
  unfold cpV mtV at hfi
  unfold cpV spV at hli
  unfold cpV mtV
  rw [hva, hvr, hmv] at hfi ⊢
  rw [hva, hvr] at hli
  refine Fn.of_T (vs := [.agg #[.slice aa c.att.length ca, c.vt, c.vx, .slice ar c.rg.length cr, c.vn, c.vh, c.vs], .agg #[.int .i64 m.b, .int .i64 m.e, .slice al m.ls.length cl], .int .i64 a, .string kd]) Try.func15 rfl rfl fun w => ?_
  by_cases h1 : a < 0
  · refine sq ?_
    refine sr ?_
    (refine T.box Wanted.none rfl rfl zq15 ?_; intro b4)
    (refine T.box Wanted.none rfl rfl zq15 ?_; intro b5)
    refine sy fun b8 => ?_
    refine sa ?_
    refine so ?_
    refine sq ?_
    refine sq ?_
    refine sr ?_
    refine sm ?_
    refine sv (PV.lss rfl rfl) ?_
    refine sm ?_
    refine T.setT (d := 17) rfl (by omega) ?_
    refine sp ?_
    refine sp ?_
    refine sp ?_
    refine sp ?_
    refine sp ?_
    refine sT ?_
    refine so ?_
    refine T.condT rfl rfl ?_
    refine sq ?_
    refine sr ?_
    refine sv (PV.build rfl zq12) ?_
    refine T.storeA Wanted.none rfl rfl zq8 (by exact rfl) zq14 zq13 ?_
    refine sa ?_
    refine so ?_
    exact T.retF (Lv.fin (RV.cellTmp rfl zq7 rfl) (by unfold mrO; rw [if_pos (by omega)]; exact ⟨_, rfl, hz⟩))
  by_cases h2 : (c.att.length : Int) ≤ a
  · refine sq ?_
    refine sr ?_
    (refine T.box Wanted.none rfl rfl zq15 ?_; intro b4)
    (refine T.box Wanted.none rfl rfl zq15 ?_; intro b5)
    refine sy fun b8 => ?_
    refine sa ?_
    refine so ?_
    refine sq ?_
    refine sq ?_
    refine sr ?_
    refine sm ?_
    refine sv (PV.lss rfl rfl) ?_
    refine sm ?_
    refine T.setF (d := 17) rfl (by omega) ?_
    refine gm ?_
    refine gf ?_
    refine gl ?_
    refine gv (PV.lenSl rfl) ?_
    refine gv (PV.geq rfl rfl) ?_
    refine sF ?_
    refine so ?_
    refine sc rfl (by omega) ?_
    refine sq ?_
    refine sr ?_
    refine sv (PV.build rfl zq12) ?_
    refine T.storeA Wanted.none rfl rfl zq8 (by exact rfl) zq14 zq13 ?_
    refine sa ?_
    refine so ?_
    exact T.retF (Lv.fin (RV.cellTmp rfl zq7 rfl) (by unfold mrO; rw [if_pos (by omega)]; exact ⟨_, rfl, hz⟩))
  cases hf : fitO c m with
  | none =>
    have hk : mrO c m a kd = (zeroLn, 8) := by unfold mrO; rw [if_neg (by omega), hf]
    rw [hf] at hfi
    change Fn _ _ _ _ (fun u _ => u = .tuple #[.agg #[.string (bs []), .int .i64 0, .int .i64 0, .slice none 0 0], .bool false]) at hfi
    refine sq ?_
    refine sr ?_
    (refine T.box Wanted.none rfl rfl zq15 ?_; intro b4)
    (refine T.box Wanted.none rfl rfl zq15 ?_; intro b5)
    refine sy fun b8 => ?_
    refine sa ?_
    refine so ?_
    refine sq ?_
    refine sq ?_
    refine sr ?_
    refine sm ?_
    refine sv (PV.lss rfl rfl) ?_
    refine sm ?_
    refine T.setF (d := 17) rfl (by omega) ?_
    refine gm ?_
    refine gf ?_
    refine gl ?_
    refine gv (PV.lenSl rfl) ?_
    refine gv (PV.geq rfl rfl) ?_
    refine sF ?_
    refine so ?_
    refine sd rfl (by omega) ?_
    refine T.skip ?_
    refine sq ?_
    refine sr ?_
    refine sv (PV.loadAll rfl zq0 (by exact rfl)) ?_
    refine sv (PV.loadAll rfl zq0 (by exact rfl)) ?_
    refine T.callV Wanted.none rfl rfl (hfi) ?_
    refine sm ?_
    refine sv (PV.extract rfl rfl) ?_
    refine sv (PV.extract rfl rfl) ?_
    refine sy fun b10 => ?_
    refine T.storeA Wanted.none rfl rfl zq8 (by exact rfl) zq14 zq13 ?_
    refine sa ?_
    refine so ?_
    refine sq ?_
    refine sq ?_
    refine sr ?_
    refine sm ?_
    refine sv (PV.not rfl) ?_
    refine so ?_
    refine T.condT rfl rfl ?_
    refine sq ?_
    refine sr ?_
    refine sv (PV.build rfl zq12) ?_
    refine T.storeA Wanted.none rfl rfl zq8 (by exact rfl) zq14 zq13 ?_
    refine sa ?_
    refine so ?_
    exact T.retF (Lv.fin (RV.cellTmp rfl zq7 rfl) (by rw [hk]; exact ⟨_, rfl, hz⟩))
  | some t =>
    have hfp := fitP hw hf
    have hmem := (fitO_some hw hf).1
    have hrg := hc.x.2 t hmem
    obtain ⟨am, cm, hkv⟩ := hrg.1.len
    rw [hf, Option.getD_some] at hfi
    unfold rgV at hfi
    rw [hkv] at hfi
    change Fn _ _ _ _ (fun u _ => u = .tuple #[.agg #[.string t.ty, .int .i64 t.b, .int .i64 t.e, .slice am t.ks.length cm], .bool true]) at hfi
    have hlin := fun i0 n (h : 0 ≤ i0 ∧ n ≤ (c.tk.length : Int)) => line_in c m t a i0 n H hc hw hfp h ⟨by omega, by omega⟩
    unfold cpV mtV rgV at hlin
    rw [hva, hvr, hmv, hkv] at hlin
    by_cases hi : lastI c.rg kd (m.b, m.e) < 0
    · have hi1 : lastI c.rg kd (m.b, m.e) = -1 := by omega
      have hk : mrO c m a kd = (lnO c m t a t.b t.e, 0) := by unfold mrO; rw [if_neg (by omega), hf]; dsimp only; rw [if_pos hi]
      have hl1 := hlin t.b t.e ⟨by have := hfp.t0; omega, by have := hfp.tn; omega⟩
      rw [hi1] at hli
      refine sq ?_
      refine sr ?_
      (refine T.box Wanted.none rfl rfl zq15 ?_; intro b4)
      (refine T.box Wanted.none rfl rfl zq15 ?_; intro b5)
      refine sy fun b8 => ?_
      refine sa ?_
      refine so ?_
      refine sq ?_
      refine sq ?_
      refine sr ?_
      refine sm ?_
      refine sv (PV.lss rfl rfl) ?_
      refine sm ?_
      refine T.setF (d := 17) rfl (by omega) ?_
      refine gm ?_
      refine gf ?_
      refine gl ?_
      refine gv (PV.lenSl rfl) ?_
      refine gv (PV.geq rfl rfl) ?_
      refine sF ?_
      refine so ?_
      refine sd rfl (by omega) ?_
      refine T.skip ?_
      refine sq ?_
      refine sr ?_
      refine sv (PV.loadAll rfl zq0 (by exact rfl)) ?_
      refine sv (PV.loadAll rfl zq0 (by exact rfl)) ?_
      refine T.callV Wanted.none rfl rfl (hfi) ?_
      refine sm ?_
      refine sv (PV.extract rfl rfl) ?_
      refine sv (PV.extract rfl rfl) ?_
      refine sy fun b10 => ?_
      refine T.storeA Wanted.none rfl rfl zq8 (by exact rfl) zq14 zq13 ?_
      refine sa ?_
      refine so ?_
      refine sq ?_
      refine sq ?_
      refine sr ?_
      refine sm ?_
      refine sv (PV.not rfl) ?_
      refine so ?_
      refine T.condF rfl rfl ?_
      refine T.skip ?_
      refine sq ?_
      refine T.regionQ (by kernel_rfl) ?_
      refine TQ.pv (PV.fieldAddr rfl) Wanted.none rfl rfl ?_
      refine TQ.pv (PV.load1 rfl zq0 rfl) Wanted.none rfl rfl ?_
      refine TQ.pv (PV.fieldAddr rfl) Wanted.none rfl rfl ?_
      refine TQ.pv (PV.load1 rfl zq0 rfl) Wanted.none rfl rfl ?_
      refine TQ.pv (PV.assign rfl) Wanted.none rfl rfl ?_
      refine TQ.pv (PV.assign rfl) Wanted.none rfl rfl ?_
      refine TQ.nil ?_
      refine sq ?_
      refine sq ?_
      refine sr ?_
      refine sv (PV.loadAll rfl zq0 (by exact rfl)) ?_
      refine sm ?_
      refine sf ?_
      refine sl ?_
      refine sf ?_
      refine sl ?_
      refine sv (PV.build rfl zq12) ?_
      refine T.callV Wanted.none rfl rfl (hli) ?_
      refine sa ?_
      refine so ?_
      refine sq ?_
      refine sr ?_
      refine sm ?_
      refine sv (PV.geq rfl rfl) ?_
      refine so ?_
      refine T.condF rfl rfl ?_
      refine T.skip ?_
      refine sq ?_
      refine sr ?_
      refine sv (PV.loadAll rfl zq0 (by exact rfl)) ?_
      refine sv (PV.loadAll rfl zq0 (by exact rfl)) ?_
      refine sv (PV.loadAll rfl zq0 (by exact rfl)) ?_
      refine sm ?_
      refine sm ?_
      refine sm ?_
      (refine T.call Wanted.none rfl rfl hl1 ?_; rintro _ H66 hle66 ⟨v1, v2, v3, rfl, k1, k2, k3⟩; obtain ⟨ad1, cap1, rfl⟩ := k1.len; obtain ⟨ad2, cap2, rfl⟩ := k2.len; obtain ⟨ad3, cap3, rfl⟩ := k3.len)
      refine T.storeA Wanted.none rfl rfl zq8 (by exact rfl) zq14 zq13 ?_
      refine sa ?_
      refine so ?_
      exact T.retF (Lv.fin (RV.cellTmp rfl zq7 rfl) (by rw [hk]; exact ⟨_, rfl, _, _, _, rfl, k1, k2, k3⟩))
    · obtain ⟨i, hie⟩ : ∃ i : Nat, lastI c.rg kd (m.b, m.e) = (i : Int) := ⟨(lastI c.rg kd (m.b, m.e)).toNat, by omega⟩
      obtain ⟨bx, off, x, rfl, hix, hsub⟩ := RowL.get encRg_len hr (i := i) (by omega)
      unfold encRg at hsub
      obtain ⟨ax, cx, hxv⟩ := (hc.r.2 x (List.mem_of_getElem? hix)).1.len
      rw [hxv] at hsub
      have hk : mrO c m a kd = (lnO c m t a x.b x.e, 0) := by unfold mrO; rw [if_neg (by omega), hf]; dsimp only; rw [if_neg hi, hie, Int.toNat_natCast, hix]
      have hl1 := hlin x.b x.e (hrb x (List.mem_of_getElem? hix))
      rw [hie] at hli
      have hn1 : ¬ (i : Int) = -1 := by omega
      have hn2 : (0 : Int) ≤ (i : Int) := by omega
      refine sq ?_
      refine sr ?_
      (refine T.box Wanted.none rfl rfl zq15 ?_; intro b4)
      (refine T.box Wanted.none rfl rfl zq15 ?_; intro b5)
      refine sy fun b8 => ?_
      refine sa ?_
      refine so ?_
      refine sq ?_
      refine sq ?_
      refine sr ?_
      refine sm ?_
      refine sv (PV.lss rfl rfl) ?_
      refine sm ?_
      refine T.setF (d := 17) rfl (by omega) ?_
      refine gm ?_
      refine gf ?_
      refine gl ?_
      refine gv (PV.lenSl rfl) ?_
      refine gv (PV.geq rfl rfl) ?_
      refine sF ?_
      refine so ?_
      refine sd rfl (by omega) ?_
      refine T.skip ?_
      refine sq ?_
      refine sr ?_
      refine sv (PV.loadAll rfl zq0 (by exact rfl)) ?_
      refine sv (PV.loadAll rfl zq0 (by exact rfl)) ?_
      refine T.callV Wanted.none rfl rfl (hfi) ?_
      refine sm ?_
      refine sv (PV.extract rfl rfl) ?_
      refine sv (PV.extract rfl rfl) ?_
      refine sy fun b10 => ?_
      refine T.storeA Wanted.none rfl rfl zq8 (by exact rfl) zq14 zq13 ?_
      refine sa ?_
      refine so ?_
      refine sq ?_
      refine sq ?_
      refine sr ?_
      refine sm ?_
      refine sv (PV.not rfl) ?_
      refine so ?_
      refine T.condF rfl rfl ?_
      refine T.skip ?_
      refine sq ?_
      refine T.regionQ (by kernel_rfl) ?_
      refine TQ.pv (PV.fieldAddr rfl) Wanted.none rfl rfl ?_
      refine TQ.pv (PV.load1 rfl zq0 rfl) Wanted.none rfl rfl ?_
      refine TQ.pv (PV.fieldAddr rfl) Wanted.none rfl rfl ?_
      refine TQ.pv (PV.load1 rfl zq0 rfl) Wanted.none rfl rfl ?_
      refine TQ.pv (PV.assign rfl) Wanted.none rfl rfl ?_
      refine TQ.pv (PV.assign rfl) Wanted.none rfl rfl ?_
      refine TQ.nil ?_
      refine sq ?_
      refine sq ?_
      refine sr ?_
      refine sv (PV.loadAll rfl zq0 (by exact rfl)) ?_
      refine sm ?_
      refine sf ?_
      refine sl ?_
      refine sf ?_
      refine sl ?_
      refine sv (PV.build rfl zq12) ?_
      refine T.callV Wanted.none rfl rfl (hli) ?_
      refine sa ?_
      refine so ?_
      refine sq ?_
      refine sr ?_
      refine sm ?_
      refine sv (PV.geq rfl rfl) ?_
      refine so ?_
      refine T.condT rfl rfl ?_
      refine T.regionQ (by kernel_rfl) ?_
      refine TQ.pv (PV.fieldAddr rfl) Wanted.none rfl rfl ?_
      refine TQ.pv (PV.load1 rfl zq0 rfl) Wanted.none rfl rfl ?_
      refine TQ.pv (PV.move rfl) Wanted.none rfl rfl ?_
      refine TQ.pv (PV.indexAddr rfl rfl (by omega)) Wanted.none rfl rfl ?_
      refine TQ.pv (PV.fieldAddr rfl) Wanted.none rfl rfl ?_
      refine TQ.pv (PV.loadSub rfl (by assumption) rfl) Wanted.none rfl rfl ?_
      refine TQ.pv (PV.fieldAddr rfl) Wanted.none rfl rfl ?_
      refine TQ.pv (PV.load1 rfl zq0 rfl) Wanted.none rfl rfl ?_
      refine TQ.pv (PV.move rfl) Wanted.none rfl rfl ?_
      refine TQ.pv (PV.indexAddr rfl rfl (by omega)) Wanted.none rfl rfl ?_
      refine TQ.pv (PV.fieldAddr rfl) Wanted.none rfl rfl ?_
      refine TQ.pv (PV.loadSub rfl (by assumption) rfl) Wanted.none rfl rfl ?_
      refine TQ.pv (PV.assign rfl) Wanted.none rfl rfl ?_
      refine TQ.pv (PV.assign rfl) Wanted.none rfl rfl ?_
      refine TQ.nil ?_
      refine sq ?_
      refine sr ?_
      refine sv (PV.loadAll rfl zq0 (by exact rfl)) ?_
      refine sv (PV.loadAll rfl zq0 (by exact rfl)) ?_
      refine sv (PV.loadAll rfl zq0 (by exact rfl)) ?_
      refine sm ?_
      refine sm ?_
      refine sm ?_
      (refine T.call Wanted.none rfl rfl hl1 ?_; rintro _ H66 hle66 ⟨v1, v2, v3, rfl, k1, k2, k3⟩; obtain ⟨ad1, cap1, rfl⟩ := k1.len; obtain ⟨ad2, cap2, rfl⟩ := k2.len; obtain ⟨ad3, cap3, rfl⟩ := k3.len)
      refine T.storeA Wanted.none rfl rfl zq8 (by exact rfl) zq14 zq13 ?_
      refine sa ?_
      refine so ?_
      exact T.retF (Lv.fin (RV.cellTmp rfl zq7 rfl) (by rw [hk]; exact ⟨_, rfl, _, _, _, rfl, k1, k2, k3⟩))
set_option maxHeartbeats 1000000 in
theorem makeRegion_ref (c : Cp) (m : Mt) (a : Int) (kd : ByteArray) (H : Hp) (hc : CpL H c) (hw : CpW c) (hrb : ∀ r ∈ c.rg, 0 ≤ r.b ∧ r.e ≤ c.tk.length) (hm : LabOk H m) (hl : m.ls.length ≤ 1000) :
    Fn Try.prog 16 #[cpV c, mtV m, .int .i64 a, .string kd] H (fun u H' => ∃ v, u = .tuple #[v, .int .i64 (mrO c m a kd).2] ∧ LnR H' v (mrO c m a kd).1) := by
  have hlt := hc.lt
  obtain ⟨aa, ca, hva⟩ := hc.a.len
  obtain ⟨ar, cr, hvr⟩ := hc.r.1.len
  have hr := hc.r.1
  rw [hvr] at hr
  have hla := hc.la
  obtain ⟨al, cl, hmv⟩ := hm.1.len
  have hfi := fits_ref c m H hc hm hl
  have hli := last_ref c kd (m.b, m.e) H hc
  have hlr := lastI_range c.rg kd (m.b, m.e)
  have hz : LnR H (.agg #[.string (bs []), .int .i64 0, .slice none 0 0, .slice none 0 0, .slice none 0 0]) zeroLn := ⟨_, _, _, rfl, SlR.empty, SlR.empty, SlR.empty⟩
  unfold cpV mtV at hfi
  unfold cpV spV at hli
  unfold cpV mtV
  rw [hva, hvr, hmv] at hfi ⊢
  rw [hva, hvr] at hli
  refine Fn.of_T (vs := [.agg #[.slice aa c.att.length ca, c.vt, c.vx, .slice ar c.rg.length cr, c.vn, c.vh, c.vs], .agg #[.int .i64 m.b, .int .i64 m.e, .slice al m.ls.length cl], .int .i64 a, .string kd]) Try.func16 rfl rfl fun w => ?_
  by_cases h1 : a < 0
  · refine sq ?_
    refine sr ?_
    (refine T.box Wanted.none rfl rfl zq15 ?_; intro b4)
    (refine T.box Wanted.none rfl rfl zq15 ?_; intro b5)
    refine sy fun b8 => ?_
    refine sa ?_
    refine so ?_
    refine sq ?_
    refine sq ?_
    refine sr ?_
    refine sm ?_
    refine sv (PV.lss rfl rfl) ?_
    refine sm ?_
    refine T.setT (d := 17) rfl (by omega) ?_
    refine sp ?_
    refine sp ?_
    refine sp ?_
    refine sp ?_
    refine sp ?_
    refine sT ?_
    refine so ?_
    refine T.condT rfl rfl ?_
    refine sq ?_
    refine sr ?_
    refine sv (PV.build rfl zq12) ?_
    refine T.storeA Wanted.none rfl rfl zq8 (by exact rfl) zq14 zq13 ?_
    refine sa ?_
    refine so ?_
    exact T.retF (Lv.fin (RV.cellTmp rfl zq7 rfl) (by unfold mrO; rw [if_pos (by omega)]; exact ⟨_, rfl, hz⟩))
  by_cases h2 : (c.att.length : Int) ≤ a
  · refine sq ?_
    refine sr ?_
    (refine T.box Wanted.none rfl rfl zq15 ?_; intro b4)
    (refine T.box Wanted.none rfl rfl zq15 ?_; intro b5)
    refine sy fun b8 => ?_
    refine sa ?_
    refine so ?_
    refine sq ?_
    refine sq ?_
    refine sr ?_
    refine sm ?_
    refine sv (PV.lss rfl rfl) ?_
    refine sm ?_
    refine T.setF (d := 17) rfl (by omega) ?_
    refine gm ?_
    refine gf ?_
    refine gl ?_
    refine gv (PV.lenSl rfl) ?_
    refine gv (PV.geq rfl rfl) ?_
    refine sF ?_
    refine so ?_
    refine sc rfl (by omega) ?_
    refine sq ?_
    refine sr ?_
    refine sv (PV.build rfl zq12) ?_
    refine T.storeA Wanted.none rfl rfl zq8 (by exact rfl) zq14 zq13 ?_
    refine sa ?_
    refine so ?_
    exact T.retF (Lv.fin (RV.cellTmp rfl zq7 rfl) (by unfold mrO; rw [if_pos (by omega)]; exact ⟨_, rfl, hz⟩))
  cases hf : fitO c m with
  | none =>
    have hk : mrO c m a kd = (zeroLn, 8) := by unfold mrO; rw [if_neg (by omega), hf]
    rw [hf] at hfi
    change Fn _ _ _ _ (fun u _ => u = .bool false) at hfi
    refine sq ?_
    refine sr ?_
    (refine T.box Wanted.none rfl rfl zq15 ?_; intro b4)
    (refine T.box Wanted.none rfl rfl zq15 ?_; intro b5)
    refine sy fun b8 => ?_
    refine sa ?_
    refine so ?_
    refine sq ?_
    refine sq ?_
    refine sr ?_
    refine sm ?_
    refine sv (PV.lss rfl rfl) ?_
    refine sm ?_
    refine T.setF (d := 17) rfl (by omega) ?_
    refine gm ?_
    refine gf ?_
    refine gl ?_
    refine gv (PV.lenSl rfl) ?_
    refine gv (PV.geq rfl rfl) ?_
    refine sF ?_
    refine so ?_
    refine sd rfl (by omega) ?_
    refine T.skip ?_
    refine sq ?_
    refine sq ?_
    refine sr ?_
    refine sv (PV.loadAll rfl zq0 (by exact rfl)) ?_
    refine sv (PV.loadAll rfl zq0 (by exact rfl)) ?_
    refine T.callV Wanted.none rfl rfl (hfi) ?_
    refine sv (PV.not rfl) ?_
    refine so ?_
    refine T.condT rfl rfl ?_
    refine sq ?_
    refine sr ?_
    refine sv (PV.build rfl zq12) ?_
    refine T.storeA Wanted.none rfl rfl zq8 (by exact rfl) zq14 zq13 ?_
    refine sa ?_
    refine so ?_
    exact T.retF (Lv.fin (RV.cellTmp rfl zq7 rfl) (by rw [hk]; exact ⟨_, rfl, hz⟩))
  | some t =>
    have hfp := fitP hw hf
    have hmem := (fitO_some hw hf).1
    have hrg := hc.x.2 t hmem
    obtain ⟨am, cm, hkv⟩ := hrg.1.len
    have htx := fitO_find hf
    have hxt := textOf_ref c m.b H hc
    rw [htx, Option.getD_some] at hxt
    unfold rgV cpV at hxt
    rw [hkv, hva, hvr] at hxt
    change Fn _ _ _ _ (fun u _ => u = .tuple #[.agg #[.string t.ty, .int .i64 t.b, .int .i64 t.e, .slice am t.ks.length cm], .bool true]) at hxt
    rw [hf] at hfi
    change Fn _ _ _ _ (fun u _ => u = .bool true) at hfi
    have hlin := fun i0 n (h : 0 ≤ i0 ∧ n ≤ (c.tk.length : Int)) => line_ref c m t a i0 n H hc hw hfp htx hrg h ⟨by omega, by omega⟩
    unfold cpV mtV  at hlin
    rw [hva, hvr, hmv] at hlin
    by_cases hi : lastI c.rg kd (m.b, m.e) < 0
    · have hi1 : lastI c.rg kd (m.b, m.e) = -1 := by omega
      have hk : mrO c m a kd = (lnO c m t a t.b t.e, 0) := by unfold mrO; rw [if_neg (by omega), hf]; dsimp only; rw [if_pos hi]
      have hl1 := hlin t.b t.e ⟨by have := hfp.t0; omega, by have := hfp.tn; omega⟩
      rw [hi1] at hli
      refine sq ?_
      refine sr ?_
      (refine T.box Wanted.none rfl rfl zq15 ?_; intro b4)
      (refine T.box Wanted.none rfl rfl zq15 ?_; intro b5)
      refine sy fun b8 => ?_
      refine sa ?_
      refine so ?_
      refine sq ?_
      refine sq ?_
      refine sr ?_
      refine sm ?_
      refine sv (PV.lss rfl rfl) ?_
      refine sm ?_
      refine T.setF (d := 17) rfl (by omega) ?_
      refine gm ?_
      refine gf ?_
      refine gl ?_
      refine gv (PV.lenSl rfl) ?_
      refine gv (PV.geq rfl rfl) ?_
      refine sF ?_
      refine so ?_
      refine sd rfl (by omega) ?_
      refine T.skip ?_
      refine sq ?_
      refine sq ?_
      refine sr ?_
      refine sv (PV.loadAll rfl zq0 (by exact rfl)) ?_
      refine sv (PV.loadAll rfl zq0 (by exact rfl)) ?_
      refine T.callV Wanted.none rfl rfl (hfi) ?_
      refine sv (PV.not rfl) ?_
      refine so ?_
      refine T.condF rfl rfl ?_
      refine T.skip ?_
      refine sq ?_
      refine sr ?_
      refine sv (PV.loadAll rfl zq0 (by exact rfl)) ?_
      refine sf ?_
      refine sl ?_
      refine T.callV Wanted.none rfl rfl (hxt) ?_
      refine sm ?_
      refine sv (PV.extract rfl rfl) ?_
      refine sv (PV.extract rfl rfl) ?_
      refine sy fun b10 => ?_
      refine T.storeA Wanted.none rfl rfl zq8 (by exact rfl) zq14 zq13 ?_
      refine sa ?_
      refine so ?_
      refine sq ?_
      refine T.regionQ (by kernel_rfl) ?_
      refine TQ.pv (PV.fieldAddr rfl) Wanted.none rfl rfl ?_
      refine TQ.pv (PV.load1 rfl zq0 rfl) Wanted.none rfl rfl ?_
      refine TQ.pv (PV.fieldAddr rfl) Wanted.none rfl rfl ?_
      refine TQ.pv (PV.load1 rfl zq0 rfl) Wanted.none rfl rfl ?_
      refine TQ.pv (PV.assign rfl) Wanted.none rfl rfl ?_
      refine TQ.pv (PV.assign rfl) Wanted.none rfl rfl ?_
      refine TQ.nil ?_
      refine sq ?_
      refine sq ?_
      refine sr ?_
      refine sv (PV.loadAll rfl zq0 (by exact rfl)) ?_
      refine sm ?_
      refine sf ?_
      refine sl ?_
      refine sf ?_
      refine sl ?_
      refine sv (PV.build rfl zq12) ?_
      refine T.callV Wanted.none rfl rfl (hli) ?_
      refine sa ?_
      refine so ?_
      refine sq ?_
      refine sr ?_
      refine sm ?_
      refine sv (PV.neq rfl rfl) ?_
      refine so ?_
      refine T.condF rfl rfl ?_
      refine T.skip ?_
      refine sq ?_
      refine sr ?_
      refine sv (PV.loadAll rfl zq0 (by exact rfl)) ?_
      refine sv (PV.loadAll rfl zq0 (by exact rfl)) ?_
      refine sm ?_
      refine sm ?_
      refine sm ?_
      (refine T.call Wanted.none rfl rfl hl1 ?_; rintro _ H68 hle68 ⟨v1, v2, v3, rfl, k1, k2, k3⟩; obtain ⟨ad1, cap1, rfl⟩ := k1.len; obtain ⟨ad2, cap2, rfl⟩ := k2.len; obtain ⟨ad3, cap3, rfl⟩ := k3.len)
      refine T.storeA Wanted.none rfl rfl zq8 (by exact rfl) zq14 zq13 ?_
      refine sa ?_
      refine so ?_
      exact T.retF (Lv.fin (RV.cellTmp rfl zq7 rfl) (by rw [hk]; exact ⟨_, rfl, _, _, _, rfl, k1, k2, k3⟩))
    · obtain ⟨i, hie⟩ : ∃ i : Nat, lastI c.rg kd (m.b, m.e) = (i : Int) := ⟨(lastI c.rg kd (m.b, m.e)).toNat, by omega⟩
      obtain ⟨bx, off, x, rfl, hix, hsub⟩ := RowL.get encRg_len hr (i := i) (by omega)
      unfold encRg at hsub
      obtain ⟨ax, cx, hxv⟩ := (hc.r.2 x (List.mem_of_getElem? hix)).1.len
      rw [hxv] at hsub
      have hk : mrO c m a kd = (lnO c m t a x.b x.e, 0) := by unfold mrO; rw [if_neg (by omega), hf]; dsimp only; rw [if_neg hi, hie, Int.toNat_natCast, hix]
      have hl1 := hlin x.b x.e (hrb x (List.mem_of_getElem? hix))
      rw [hie] at hli
      have hn1 : ¬ (i : Int) = -1 := by omega
      have hn2 : (0 : Int) ≤ (i : Int) := by omega
      refine sq ?_
      refine sr ?_
      (refine T.box Wanted.none rfl rfl zq15 ?_; intro b4)
      (refine T.box Wanted.none rfl rfl zq15 ?_; intro b5)
      refine sy fun b8 => ?_
      refine sa ?_
      refine so ?_
      refine sq ?_
      refine sq ?_
      refine sr ?_
      refine sm ?_
      refine sv (PV.lss rfl rfl) ?_
      refine sm ?_
      refine T.setF (d := 17) rfl (by omega) ?_
      refine gm ?_
      refine gf ?_
      refine gl ?_
      refine gv (PV.lenSl rfl) ?_
      refine gv (PV.geq rfl rfl) ?_
      refine sF ?_
      refine so ?_
      refine sd rfl (by omega) ?_
      refine T.skip ?_
      refine sq ?_
      refine sq ?_
      refine sr ?_
      refine sv (PV.loadAll rfl zq0 (by exact rfl)) ?_
      refine sv (PV.loadAll rfl zq0 (by exact rfl)) ?_
      refine T.callV Wanted.none rfl rfl (hfi) ?_
      refine sv (PV.not rfl) ?_
      refine so ?_
      refine T.condF rfl rfl ?_
      refine T.skip ?_
      refine sq ?_
      refine sr ?_
      refine sv (PV.loadAll rfl zq0 (by exact rfl)) ?_
      refine sf ?_
      refine sl ?_
      refine T.callV Wanted.none rfl rfl (hxt) ?_
      refine sm ?_
      refine sv (PV.extract rfl rfl) ?_
      refine sv (PV.extract rfl rfl) ?_
      refine sy fun b10 => ?_
      refine T.storeA Wanted.none rfl rfl zq8 (by exact rfl) zq14 zq13 ?_
      refine sa ?_
      refine so ?_
      refine sq ?_
      refine T.regionQ (by kernel_rfl) ?_
      refine TQ.pv (PV.fieldAddr rfl) Wanted.none rfl rfl ?_
      refine TQ.pv (PV.load1 rfl zq0 rfl) Wanted.none rfl rfl ?_
      refine TQ.pv (PV.fieldAddr rfl) Wanted.none rfl rfl ?_
      refine TQ.pv (PV.load1 rfl zq0 rfl) Wanted.none rfl rfl ?_
      refine TQ.pv (PV.assign rfl) Wanted.none rfl rfl ?_
      refine TQ.pv (PV.assign rfl) Wanted.none rfl rfl ?_
      refine TQ.nil ?_
      refine sq ?_
      refine sq ?_
      refine sr ?_
      refine sv (PV.loadAll rfl zq0 (by exact rfl)) ?_
      refine sm ?_
      refine sf ?_
      refine sl ?_
      refine sf ?_
      refine sl ?_
      refine sv (PV.build rfl zq12) ?_
      refine T.callV Wanted.none rfl rfl (hli) ?_
      refine sa ?_
      refine so ?_
      refine sq ?_
      refine sr ?_
      refine sm ?_
      refine sv (PV.neq rfl rfl) ?_
      refine so ?_
      refine T.condT rfl rfl ?_
      refine T.regionQ (by kernel_rfl) ?_
      refine TQ.pv (PV.fieldAddr rfl) Wanted.none rfl rfl ?_
      refine TQ.pv (PV.load1 rfl zq0 rfl) Wanted.none rfl rfl ?_
      refine TQ.pv (PV.move rfl) Wanted.none rfl rfl ?_
      refine TQ.pv (PV.indexAddr rfl rfl (by omega)) Wanted.none rfl rfl ?_
      refine TQ.pv (PV.fieldAddr rfl) Wanted.none rfl rfl ?_
      refine TQ.pv (PV.loadSub rfl (by assumption) rfl) Wanted.none rfl rfl ?_
      refine TQ.pv (PV.fieldAddr rfl) Wanted.none rfl rfl ?_
      refine TQ.pv (PV.load1 rfl zq0 rfl) Wanted.none rfl rfl ?_
      refine TQ.pv (PV.move rfl) Wanted.none rfl rfl ?_
      refine TQ.pv (PV.indexAddr rfl rfl (by omega)) Wanted.none rfl rfl ?_
      refine TQ.pv (PV.fieldAddr rfl) Wanted.none rfl rfl ?_
      refine TQ.pv (PV.loadSub rfl (by assumption) rfl) Wanted.none rfl rfl ?_
      refine TQ.pv (PV.assign rfl) Wanted.none rfl rfl ?_
      refine TQ.pv (PV.assign rfl) Wanted.none rfl rfl ?_
      refine TQ.nil ?_
      refine sq ?_
      refine sr ?_
      refine sv (PV.loadAll rfl zq0 (by exact rfl)) ?_
      refine sv (PV.loadAll rfl zq0 (by exact rfl)) ?_
      refine sm ?_
      refine sm ?_
      refine sm ?_
      (refine T.call Wanted.none rfl rfl hl1 ?_; rintro _ H68 hle68 ⟨v1, v2, v3, rfl, k1, k2, k3⟩; obtain ⟨ad1, cap1, rfl⟩ := k1.len; obtain ⟨ad2, cap2, rfl⟩ := k2.len; obtain ⟨ad3, cap3, rfl⟩ := k3.len)
      refine T.storeA Wanted.none rfl rfl zq8 (by exact rfl) zq14 zq13 ?_
      refine sa ?_
      refine so ?_
      exact T.retF (Lv.fin (RV.cellTmp rfl zq7 rfl) (by rw [hk]; exact ⟨_, rfl, _, _, _, rfl, k1, k2, k3⟩))
end Go.Proofs.Ytlklcjpmfjmenaa
