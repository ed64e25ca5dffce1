/- lines: whether a match fits: the program. -/
import Derived.Test.YtlklcjpmfjmenaaGreatDoorFK5
namespace Go.Proofs.YtlklcjpmfjmenaaGreatDoor
open Go.RowKit

theorem fitO_some {c : Cp} {m : Mt} {t : Rg} (hg : CpW c) (h : fitO c m = some t) : t ∈ c.tx ∧ 0 ≤ t.b ∧ t.b ≤ m.b ∧ m.b < m.e ∧ m.e ≤ t.e ∧ t.e ≤ c.tk.length ∧ ∀ x ∈ m.ls, -1 ≤ x ∧ x < c.tk.length := by
  unfold fitO at h
  cases hf : c.tx.find? (inT m.b) with
  | none => rw [hf] at h; cases h
  | some t' =>
    rw [hf] at h
    dsimp only at h
    split at h
    · rename_i hfb
      obtain rfl : t' = t := Option.some.inj h
      have hm := List.mem_of_find?_eq_some hf
      have hi := List.find?_some hf
      have hc := hg.tx t' hm
      unfold inT at hi
      unfold fitB at hfb
      simp only [Bool.and_eq_true, decide_eq_true_eq] at hi hfb
      refine ⟨hm, by omega, by omega, by omega, by omega, by omega, fun x hx => ?_⟩
      have := List.all_eq_true.1 hfb.2 x hx
      unfold labOk at this
      simp at this
      omega
    · cases h
theorem fits_in (c : Cp) (m : Mt) (H : Hp) (hc : CpL H c) (hg : CpW c) (hm : LabOk H m) (hl : m.ls.length ≤ 1000) : Fn Tryz.prog 29 #[cpV c, mtV m] H (fun u _ => u = .tuple #[rgV ((fitO c m).getD zeroRg), .bool (fitO c m).isSome]) := by
  have hta := textAt_in c m.b H hc
  obtain ⟨al, cl, hmv⟩ := hm.1.len
  have hml := hm.1
  rw [hmv] at hml
  revert hta
  obtain ⟨aa, ca, at1, ct, ax, cx, ar, cr, an, cn, ah, ch, as1, cs, hcv, ha, ht, hx, hr, hn, hh, hs⟩ := hc.open; rw [hcv]; have hla := hc.la; have hlt := hc.lt; have hlx := hc.lx; have hlr := hc.lr; have hln := hc.ln; have hlh := hc.lh; have hls := hc.ls
  intro hta
  unfold mtV
  rw [hmv]
  refine Fn.of_T (vs := [.agg #[.slice aa c.att.length ca, .slice at1 c.tk.length ct, .slice ax c.tx.length cx, .slice ar c.rg.length cr, .slice an c.nd.length cn, .slice ah c.hd.length ch, .slice as1 c.rl.length cs], .agg #[.int .i64 m.b, .int .i64 m.e, .slice al m.ls.length cl]]) Tryz.func29 rfl rfl fun w => ?_
  rcases ixI_cases (inT m.b) c.tx with ⟨h1, h2⟩ | ⟨k, t, h1, h2, h3, h4⟩
  · have hf : fitO c m = none := by unfold fitO; rw [find_miss h2]
    rw [h1] at hta
    by_cases hb : m.b < 0
    · refine sq ?_
      refine sr ?_
      (refine T.box Wanted.none rfl rfl zq15 ?_; intro b2)
      (refine T.box Wanted.none rfl rfl zq15 ?_; intro b3)
      refine sy fun b4 => ?_
      refine sa ?_
      refine so ?_
      refine sq ?_
      refine sr ?_
      refine sv (PV.loadAll rfl zq0 (by exact rfl)) ?_
      refine sf ?_
      refine sl ?_
      refine T.callV Wanted.none rfl rfl (hta) ?_
      refine sa ?_
      refine so ?_
      refine sq ?_
      refine sq ?_
      refine T.regionQ (by kernel_rfl) ?_
      refine TQ.pv (PV.fieldAddr rfl) Wanted.none rfl rfl ?_
      refine TQ.pv (PV.load1 rfl zq0 rfl) Wanted.none rfl rfl ?_
      refine TQ.pv (PV.lss rfl rfl) Wanted.none rfl rfl ?_
      refine TQ.pv (PV.move rfl) Wanted.none rfl rfl ?_
      refine TQ.setT (d := 14) rfl (by omega) ?_
      refine TQ.pass (Unwanted.guard rfl rfl rfl) rfl rfl ?_
      refine TQ.pass (Unwanted.guard rfl rfl rfl) rfl rfl ?_
      refine TQ.pass (Unwanted.guard rfl rfl rfl) rfl rfl ?_
      refine TQ.pass (Unwanted.guard rfl rfl rfl) rfl rfl ?_
      refine TQ.pass (Unwanted.guard rfl rfl rfl) rfl rfl ?_
      refine TQ.pv (PV.pickT rfl rfl rfl) Wanted.none rfl rfl ?_
      refine TQ.pv (PV.move rfl) Wanted.none rfl rfl ?_
      refine TQ.pass (Unwanted.guard rfl rfl rfl) rfl rfl ?_
      refine TQ.pass (Unwanted.guard rfl rfl rfl) rfl rfl ?_
      refine TQ.pv (PV.pickT rfl rfl rfl) Wanted.none rfl rfl ?_
      refine TQ.pv (PV.move rfl) Wanted.none rfl rfl ?_
      refine TQ.pass (Unwanted.guard rfl rfl rfl) rfl rfl ?_
      refine TQ.pass (Unwanted.guard rfl rfl rfl) rfl rfl ?_
      refine TQ.pass (Unwanted.guard rfl rfl rfl) rfl rfl ?_
      refine TQ.pass (Unwanted.guard rfl rfl rfl) rfl rfl ?_
      refine TQ.pass (Unwanted.guard rfl rfl rfl) rfl rfl ?_
      refine TQ.pass (Unwanted.guard rfl rfl rfl) rfl rfl ?_
      refine TQ.pass (Unwanted.guard rfl rfl rfl) rfl rfl ?_
      refine TQ.pass (Unwanted.guard rfl rfl rfl) rfl rfl ?_
      refine TQ.pass (Unwanted.guard rfl rfl rfl) rfl rfl ?_
      refine TQ.pv (PV.pickT rfl rfl rfl) Wanted.none rfl rfl ?_
      refine TQ.pv (PV.move rfl) Wanted.none rfl rfl ?_
      refine TQ.pass (Unwanted.guard rfl rfl rfl) rfl rfl ?_
      refine TQ.pass (Unwanted.guard rfl rfl rfl) rfl rfl ?_
      refine TQ.pass (Unwanted.guard rfl rfl rfl) rfl rfl ?_
      refine TQ.pass (Unwanted.guard rfl rfl rfl) rfl rfl ?_
      refine TQ.pass (Unwanted.guard rfl rfl rfl) rfl rfl ?_
      refine TQ.pass (Unwanted.guard rfl rfl rfl) rfl rfl ?_
      refine TQ.pv (PV.pickT rfl rfl rfl) Wanted.none rfl rfl ?_
      refine TQ.nil ?_
      refine T.condT rfl rfl ?_
      refine sq ?_
      refine sr ?_
      refine sv (PV.build rfl zq12) ?_
      refine T.storeA Wanted.none rfl rfl zq8 (by exact rfl) zq14 zq13 ?_
      refine sa ?_
      refine so ?_
      exact T.retF (Lv.fin (RV.cellTmp rfl zq7 rfl) (by rw [hf]; rfl))
    · by_cases he : m.e ≤ m.b
      · refine sq ?_
        refine sr ?_
        (refine T.box Wanted.none rfl rfl zq15 ?_; intro b2)
        (refine T.box Wanted.none rfl rfl zq15 ?_; intro b3)
        refine sy fun b4 => ?_
        refine sa ?_
        refine so ?_
        refine sq ?_
        refine sr ?_
        refine sv (PV.loadAll rfl zq0 (by exact rfl)) ?_
        refine sf ?_
        refine sl ?_
        refine T.callV Wanted.none rfl rfl (hta) ?_
        refine sa ?_
        refine so ?_
        refine sq ?_
        refine sq ?_
        refine T.regionQ (by kernel_rfl) ?_
        refine TQ.pv (PV.fieldAddr rfl) Wanted.none rfl rfl ?_
        refine TQ.pv (PV.load1 rfl zq0 rfl) Wanted.none rfl rfl ?_
        refine TQ.pv (PV.lss rfl rfl) Wanted.none rfl rfl ?_
        refine TQ.pv (PV.move rfl) Wanted.none rfl rfl ?_
        refine TQ.setF (d := 14) rfl (by omega) ?_
        refine TQ.pv (PV.fieldAddr rfl) (Wanted.guard rfl rfl rfl) rfl rfl ?_
        refine TQ.pv (PV.load1 rfl zq0 rfl) (Wanted.guard rfl rfl rfl) rfl rfl ?_
        refine TQ.pv (PV.fieldAddr rfl) (Wanted.guard rfl rfl rfl) rfl rfl ?_
        refine TQ.pv (PV.load1 rfl zq0 rfl) (Wanted.guard rfl rfl rfl) rfl rfl ?_
        refine TQ.pv (PV.geq rfl rfl) (Wanted.guard rfl rfl rfl) rfl rfl ?_
        refine TQ.pv (PV.pickF rfl rfl rfl) Wanted.none rfl rfl ?_
        refine TQ.pv (PV.move rfl) Wanted.none rfl rfl ?_
        refine TQ.setT (d := 21) rfl (by omega) ?_
        refine TQ.pass (Unwanted.guard rfl rfl rfl) rfl rfl ?_
        refine TQ.pass (Unwanted.guard rfl rfl rfl) rfl rfl ?_
        refine TQ.pv (PV.pickT rfl rfl rfl) Wanted.none rfl rfl ?_
        refine TQ.pv (PV.move rfl) Wanted.none rfl rfl ?_
        refine TQ.pass (Unwanted.guard rfl rfl rfl) rfl rfl ?_
        refine TQ.pass (Unwanted.guard rfl rfl rfl) rfl rfl ?_
        refine TQ.pass (Unwanted.guard rfl rfl rfl) rfl rfl ?_
        refine TQ.pass (Unwanted.guard rfl rfl rfl) rfl rfl ?_
        refine TQ.pass (Unwanted.guard rfl rfl rfl) rfl rfl ?_
        refine TQ.pass (Unwanted.guard rfl rfl rfl) rfl rfl ?_
        refine TQ.pass (Unwanted.guard rfl rfl rfl) rfl rfl ?_
        refine TQ.pass (Unwanted.guard rfl rfl rfl) rfl rfl ?_
        refine TQ.pass (Unwanted.guard rfl rfl rfl) rfl rfl ?_
        refine TQ.pv (PV.pickT rfl rfl rfl) Wanted.none rfl rfl ?_
        refine TQ.pv (PV.move rfl) Wanted.none rfl rfl ?_
        refine TQ.pass (Unwanted.guard rfl rfl rfl) rfl rfl ?_
        refine TQ.pass (Unwanted.guard rfl rfl rfl) rfl rfl ?_
        refine TQ.pass (Unwanted.guard rfl rfl rfl) rfl rfl ?_
        refine TQ.pass (Unwanted.guard rfl rfl rfl) rfl rfl ?_
        refine TQ.pass (Unwanted.guard rfl rfl rfl) rfl rfl ?_
        refine TQ.pass (Unwanted.guard rfl rfl rfl) rfl rfl ?_
        refine TQ.pv (PV.pickT rfl rfl rfl) Wanted.none rfl rfl ?_
        refine TQ.nil ?_
        refine T.condT rfl rfl ?_
        refine sq ?_
        refine sr ?_
        refine sv (PV.build rfl zq12) ?_
        refine T.storeA Wanted.none rfl rfl zq8 (by exact rfl) zq14 zq13 ?_
        refine sa ?_
        refine so ?_
        exact T.retF (Lv.fin (RV.cellTmp rfl zq7 rfl) (by rw [hf]; rfl))
      · refine sq ?_
        refine sr ?_
        (refine T.box Wanted.none rfl rfl zq15 ?_; intro b2)
        (refine T.box Wanted.none rfl rfl zq15 ?_; intro b3)
        refine sy fun b4 => ?_
        refine sa ?_
        refine so ?_
        refine sq ?_
        refine sr ?_
        refine sv (PV.loadAll rfl zq0 (by exact rfl)) ?_
        refine sf ?_
        refine sl ?_
        refine T.callV Wanted.none rfl rfl (hta) ?_
        refine sa ?_
        refine so ?_
        refine sq ?_
        refine sq ?_
        refine T.regionQ (by kernel_rfl) ?_
        refine TQ.pv (PV.fieldAddr rfl) Wanted.none rfl rfl ?_
        refine TQ.pv (PV.load1 rfl zq0 rfl) Wanted.none rfl rfl ?_
        refine TQ.pv (PV.lss rfl rfl) Wanted.none rfl rfl ?_
        refine TQ.pv (PV.move rfl) Wanted.none rfl rfl ?_
        refine TQ.setF (d := 14) rfl (by omega) ?_
        refine TQ.pv (PV.fieldAddr rfl) (Wanted.guard rfl rfl rfl) rfl rfl ?_
        refine TQ.pv (PV.load1 rfl zq0 rfl) (Wanted.guard rfl rfl rfl) rfl rfl ?_
        refine TQ.pv (PV.fieldAddr rfl) (Wanted.guard rfl rfl rfl) rfl rfl ?_
        refine TQ.pv (PV.load1 rfl zq0 rfl) (Wanted.guard rfl rfl rfl) rfl rfl ?_
        refine TQ.pv (PV.geq rfl rfl) (Wanted.guard rfl rfl rfl) rfl rfl ?_
        refine TQ.pv (PV.pickF rfl rfl rfl) Wanted.none rfl rfl ?_
        refine TQ.pv (PV.move rfl) Wanted.none rfl rfl ?_
        refine TQ.setF (d := 21) rfl (by omega) ?_
        refine TQ.pv (PV.move rfl) (Wanted.guard rfl rfl rfl) rfl rfl ?_
        refine TQ.pv (PV.lss rfl rfl) (Wanted.guard rfl rfl rfl) rfl rfl ?_
        refine TQ.pv (PV.pickF rfl rfl rfl) Wanted.none rfl rfl ?_
        refine TQ.pv (PV.move rfl) Wanted.none rfl rfl ?_
        refine TQ.pass (Unwanted.guard rfl rfl rfl) rfl rfl ?_
        refine TQ.pass (Unwanted.guard rfl rfl rfl) rfl rfl ?_
        refine TQ.pass (Unwanted.guard rfl rfl rfl) rfl rfl ?_
        refine TQ.pass (Unwanted.guard rfl rfl rfl) rfl rfl ?_
        refine TQ.pass (Unwanted.guard rfl rfl rfl) rfl rfl ?_
        refine TQ.pass (Unwanted.guard rfl rfl rfl) rfl rfl ?_
        refine TQ.pass (Unwanted.guard rfl rfl rfl) rfl rfl ?_
        refine TQ.pass (Unwanted.guard rfl rfl rfl) rfl rfl ?_
        refine TQ.pass (Unwanted.guard rfl rfl rfl) rfl rfl ?_
        refine TQ.pv (PV.pickT rfl rfl rfl) Wanted.none rfl rfl ?_
        refine TQ.pv (PV.move rfl) Wanted.none rfl rfl ?_
        refine TQ.pass (Unwanted.guard rfl rfl rfl) rfl rfl ?_
        refine TQ.pass (Unwanted.guard rfl rfl rfl) rfl rfl ?_
        refine TQ.pass (Unwanted.guard rfl rfl rfl) rfl rfl ?_
        refine TQ.pass (Unwanted.guard rfl rfl rfl) rfl rfl ?_
        refine TQ.pass (Unwanted.guard rfl rfl rfl) rfl rfl ?_
        refine TQ.pass (Unwanted.guard rfl rfl rfl) rfl rfl ?_
        refine TQ.pv (PV.pickT rfl rfl rfl) Wanted.none rfl rfl ?_
        refine TQ.nil ?_
        refine T.condT rfl rfl ?_
        refine sq ?_
        refine sr ?_
        refine sv (PV.build rfl zq12) ?_
        refine T.storeA Wanted.none rfl rfl zq8 (by exact rfl) zq14 zq13 ?_
        refine sa ?_
        refine so ?_
        exact T.retF (Lv.fin (RV.cellTmp rfl zq7 rfl) (by rw [hf]; rfl))
  · rw [h1] at hta
    have hch := hg.tx t (List.mem_of_getElem? h2)
    have hki := (List.getElem?_eq_some_iff.1 h2).1
    have hf : fitO c m = if fitB c m t then some t else none := by unfold fitO; rw [find_hit h4 h2 h3]
    have hin := h3
    unfold inT at hin
    simp only [Bool.and_eq_true, decide_eq_true_eq] at hin
    obtain ⟨bx, off, x, rfl, hix, hsub⟩ := RowL.get encRg_len hx.1 hki
    rw [h2] at hix
    obtain rfl := Option.some.inj hix
    unfold encRg at hsub
    obtain ⟨am, cm, hkv⟩ := (hx.2 t (List.mem_of_getElem? h2)).1.len
    rw [hkv] at hsub
    have hb : ¬ m.b < 0 := by omega
    have hk0 : ¬ (k : Int) < 0 := by omega
    by_cases he : m.e ≤ m.b
    · rw [show fitB c m t = false by unfold fitB; rw [decide_eq_false (by omega : ¬ m.b < m.e)]; rfl, if_neg (by simp)] at hf
      refine sq ?_
      refine sr ?_
      (refine T.box Wanted.none rfl rfl zq15 ?_; intro b2)
      (refine T.box Wanted.none rfl rfl zq15 ?_; intro b3)
      refine sy fun b4 => ?_
      refine sa ?_
      refine so ?_
      refine sq ?_
      refine sr ?_
      refine sv (PV.loadAll rfl zq0 (by exact rfl)) ?_
      refine sf ?_
      refine sl ?_
      refine T.callV Wanted.none rfl rfl (hta) ?_
      refine sa ?_
      refine so ?_
      refine sq ?_
      refine sq ?_
      refine T.regionQ (by kernel_rfl) ?_
      refine TQ.pv (PV.fieldAddr rfl) Wanted.none rfl rfl ?_
      refine TQ.pv (PV.load1 rfl zq0 rfl) Wanted.none rfl rfl ?_
      refine TQ.pv (PV.lss rfl rfl) Wanted.none rfl rfl ?_
      refine TQ.pv (PV.move rfl) Wanted.none rfl rfl ?_
      refine TQ.setF (d := 14) rfl (by omega) ?_
      refine TQ.pv (PV.fieldAddr rfl) (Wanted.guard rfl rfl rfl) rfl rfl ?_
      refine TQ.pv (PV.load1 rfl zq0 rfl) (Wanted.guard rfl rfl rfl) rfl rfl ?_
      refine TQ.pv (PV.fieldAddr rfl) (Wanted.guard rfl rfl rfl) rfl rfl ?_
      refine TQ.pv (PV.load1 rfl zq0 rfl) (Wanted.guard rfl rfl rfl) rfl rfl ?_
      refine TQ.pv (PV.geq rfl rfl) (Wanted.guard rfl rfl rfl) rfl rfl ?_
      refine TQ.pv (PV.pickF rfl rfl rfl) Wanted.none rfl rfl ?_
      refine TQ.pv (PV.move rfl) Wanted.none rfl rfl ?_
      refine TQ.setT (d := 21) rfl (by omega) ?_
      refine TQ.pass (Unwanted.guard rfl rfl rfl) rfl rfl ?_
      refine TQ.pass (Unwanted.guard rfl rfl rfl) rfl rfl ?_
      refine TQ.pv (PV.pickT rfl rfl rfl) Wanted.none rfl rfl ?_
      refine TQ.pv (PV.move rfl) Wanted.none rfl rfl ?_
      refine TQ.pass (Unwanted.guard rfl rfl rfl) rfl rfl ?_
      refine TQ.pass (Unwanted.guard rfl rfl rfl) rfl rfl ?_
      refine TQ.pass (Unwanted.guard rfl rfl rfl) rfl rfl ?_
      refine TQ.pass (Unwanted.guard rfl rfl rfl) rfl rfl ?_
      refine TQ.pass (Unwanted.guard rfl rfl rfl) rfl rfl ?_
      refine TQ.pass (Unwanted.guard rfl rfl rfl) rfl rfl ?_
      refine TQ.pass (Unwanted.guard rfl rfl rfl) rfl rfl ?_
      refine TQ.pass (Unwanted.guard rfl rfl rfl) rfl rfl ?_
      refine TQ.pass (Unwanted.guard rfl rfl rfl) rfl rfl ?_
      refine TQ.pv (PV.pickT rfl rfl rfl) Wanted.none rfl rfl ?_
      refine TQ.pv (PV.move rfl) Wanted.none rfl rfl ?_
      refine TQ.pass (Unwanted.guard rfl rfl rfl) rfl rfl ?_
      refine TQ.pass (Unwanted.guard rfl rfl rfl) rfl rfl ?_
      refine TQ.pass (Unwanted.guard rfl rfl rfl) rfl rfl ?_
      refine TQ.pass (Unwanted.guard rfl rfl rfl) rfl rfl ?_
      refine TQ.pass (Unwanted.guard rfl rfl rfl) rfl rfl ?_
      refine TQ.pass (Unwanted.guard rfl rfl rfl) rfl rfl ?_
      refine TQ.pv (PV.pickT rfl rfl rfl) Wanted.none rfl rfl ?_
      refine TQ.nil ?_
      refine T.condT rfl rfl ?_
      refine sq ?_
      refine sr ?_
      refine sv (PV.build rfl zq12) ?_
      refine T.storeA Wanted.none rfl rfl zq8 (by exact rfl) zq14 zq13 ?_
      refine sa ?_
      refine so ?_
      exact T.retF (Lv.fin (RV.cellTmp rfl zq7 rfl) (by rw [hf]; rfl))
    · by_cases he2 : t.e < m.e
      · rw [show fitB c m t = false by unfold fitB; rw [decide_eq_false (by omega : ¬ m.e ≤ t.e)]; simp, if_neg (by simp)] at hf
        refine sq ?_
        refine sr ?_
        (refine T.box Wanted.none rfl rfl zq15 ?_; intro b2)
        (refine T.box Wanted.none rfl rfl zq15 ?_; intro b3)
        refine sy fun b4 => ?_
        refine sa ?_
        refine so ?_
        refine sq ?_
        refine sr ?_
        refine sv (PV.loadAll rfl zq0 (by exact rfl)) ?_
        refine sf ?_
        refine sl ?_
        refine T.callV Wanted.none rfl rfl (hta) ?_
        refine sa ?_
        refine so ?_
        refine sq ?_
        refine sq ?_
        refine T.regionQ (by kernel_rfl) ?_
        refine TQ.pv (PV.fieldAddr rfl) Wanted.none rfl rfl ?_
        refine TQ.pv (PV.load1 rfl zq0 rfl) Wanted.none rfl rfl ?_
        refine TQ.pv (PV.lss rfl rfl) Wanted.none rfl rfl ?_
        refine TQ.pv (PV.move rfl) Wanted.none rfl rfl ?_
        refine TQ.setF (d := 14) rfl (by omega) ?_
        refine TQ.pv (PV.fieldAddr rfl) (Wanted.guard rfl rfl rfl) rfl rfl ?_
        refine TQ.pv (PV.load1 rfl zq0 rfl) (Wanted.guard rfl rfl rfl) rfl rfl ?_
        refine TQ.pv (PV.fieldAddr rfl) (Wanted.guard rfl rfl rfl) rfl rfl ?_
        refine TQ.pv (PV.load1 rfl zq0 rfl) (Wanted.guard rfl rfl rfl) rfl rfl ?_
        refine TQ.pv (PV.geq rfl rfl) (Wanted.guard rfl rfl rfl) rfl rfl ?_
        refine TQ.pv (PV.pickF rfl rfl rfl) Wanted.none rfl rfl ?_
        refine TQ.pv (PV.move rfl) Wanted.none rfl rfl ?_
        refine TQ.setF (d := 21) rfl (by omega) ?_
        refine TQ.pv (PV.move rfl) (Wanted.guard rfl rfl rfl) rfl rfl ?_
        refine TQ.pv (PV.lss rfl rfl) (Wanted.guard rfl rfl rfl) rfl rfl ?_
        refine TQ.pv (PV.pickF rfl rfl rfl) Wanted.none rfl rfl ?_
        refine TQ.pv (PV.move rfl) Wanted.none rfl rfl ?_
        refine TQ.pv (PV.fieldAddr rfl) (Wanted.guard rfl rfl rfl) rfl rfl ?_
        refine TQ.pv (PV.load1 rfl zq0 rfl) (Wanted.guard rfl rfl rfl) rfl rfl ?_
        refine TQ.pv (PV.fieldAddr rfl) (Wanted.guard rfl rfl rfl) rfl rfl ?_
        refine TQ.pv (PV.load1 rfl zq0 rfl) (Wanted.guard rfl rfl rfl) rfl rfl ?_
        refine TQ.pv (PV.move rfl) (Wanted.guard rfl rfl rfl) rfl rfl ?_
        refine TQ.pv (PV.indexAddr rfl rfl (by omega)) (Wanted.guard rfl rfl rfl) rfl rfl ?_
        refine TQ.pv (PV.fieldAddr rfl) (Wanted.guard rfl rfl rfl) rfl rfl ?_
        refine TQ.pv (PV.loadSub rfl (by assumption) rfl) (Wanted.guard rfl rfl rfl) rfl rfl ?_
        refine TQ.pv (PV.gtr rfl rfl) (Wanted.guard rfl rfl rfl) rfl rfl ?_
        refine TQ.pv (PV.pickF rfl rfl rfl) Wanted.none rfl rfl ?_
        refine TQ.pv (PV.move rfl) Wanted.none rfl rfl ?_
        refine TQ.setT (d := 36) rfl (by omega) ?_
        refine TQ.pass (Unwanted.guard rfl rfl rfl) rfl rfl ?_
        refine TQ.pass (Unwanted.guard rfl rfl rfl) rfl rfl ?_
        refine TQ.pass (Unwanted.guard rfl rfl rfl) rfl rfl ?_
        refine TQ.pass (Unwanted.guard rfl rfl rfl) rfl rfl ?_
        refine TQ.pass (Unwanted.guard rfl rfl rfl) rfl rfl ?_
        refine TQ.pass (Unwanted.guard rfl rfl rfl) rfl rfl ?_
        refine TQ.pv (PV.pickT rfl rfl rfl) Wanted.none rfl rfl ?_
        refine TQ.nil ?_
        refine T.condT rfl rfl ?_
        refine sq ?_
        refine sr ?_
        refine sv (PV.build rfl zq12) ?_
        refine T.storeA Wanted.none rfl rfl zq8 (by exact rfl) zq14 zq13 ?_
        refine sa ?_
        refine so ?_
        exact T.retF (Lv.fin (RV.cellTmp rfl zq7 rfl) (by rw [hf]; rfl))
      · have he3 : ¬ (c.tk.length : Int) < m.e := by omega
        have hfb : fitB c m t = m.ls.all (labOk c.tk.length) := by unfold fitB; rw [decide_eq_true (by omega : m.b < m.e), decide_eq_true (by omega : m.e ≤ t.e)]; rfl
        refine sq ?_
        refine sr ?_
        (refine T.box Wanted.none rfl rfl zq15 ?_; intro b2)
        (refine T.box Wanted.none rfl rfl zq15 ?_; intro b3)
        refine sy fun b4 => ?_
        refine sa ?_
        refine so ?_
        refine sq ?_
        refine sr ?_
        refine sv (PV.loadAll rfl zq0 (by exact rfl)) ?_
        refine sf ?_
        refine sl ?_
        refine T.callV Wanted.none rfl rfl (hta) ?_
        refine sa ?_
        refine so ?_
        refine sq ?_
        refine sq ?_
        refine T.regionQ (by kernel_rfl) ?_
        refine TQ.pv (PV.fieldAddr rfl) Wanted.none rfl rfl ?_
        refine TQ.pv (PV.load1 rfl zq0 rfl) Wanted.none rfl rfl ?_
        refine TQ.pv (PV.lss rfl rfl) Wanted.none rfl rfl ?_
        refine TQ.pv (PV.move rfl) Wanted.none rfl rfl ?_
        refine TQ.setF (d := 14) rfl (by omega) ?_
        refine TQ.pv (PV.fieldAddr rfl) (Wanted.guard rfl rfl rfl) rfl rfl ?_
        refine TQ.pv (PV.load1 rfl zq0 rfl) (Wanted.guard rfl rfl rfl) rfl rfl ?_
        refine TQ.pv (PV.fieldAddr rfl) (Wanted.guard rfl rfl rfl) rfl rfl ?_
        refine TQ.pv (PV.load1 rfl zq0 rfl) (Wanted.guard rfl rfl rfl) rfl rfl ?_
        refine TQ.pv (PV.geq rfl rfl) (Wanted.guard rfl rfl rfl) rfl rfl ?_
        refine TQ.pv (PV.pickF rfl rfl rfl) Wanted.none rfl rfl ?_
        refine TQ.pv (PV.move rfl) Wanted.none rfl rfl ?_
        refine TQ.setF (d := 21) rfl (by omega) ?_
        refine TQ.pv (PV.move rfl) (Wanted.guard rfl rfl rfl) rfl rfl ?_
        refine TQ.pv (PV.lss rfl rfl) (Wanted.guard rfl rfl rfl) rfl rfl ?_
        refine TQ.pv (PV.pickF rfl rfl rfl) Wanted.none rfl rfl ?_
        refine TQ.pv (PV.move rfl) Wanted.none rfl rfl ?_
        refine TQ.pv (PV.fieldAddr rfl) (Wanted.guard rfl rfl rfl) rfl rfl ?_
        refine TQ.pv (PV.load1 rfl zq0 rfl) (Wanted.guard rfl rfl rfl) rfl rfl ?_
        refine TQ.pv (PV.fieldAddr rfl) (Wanted.guard rfl rfl rfl) rfl rfl ?_
        refine TQ.pv (PV.load1 rfl zq0 rfl) (Wanted.guard rfl rfl rfl) rfl rfl ?_
        refine TQ.pv (PV.move rfl) (Wanted.guard rfl rfl rfl) rfl rfl ?_
        refine TQ.pv (PV.indexAddr rfl rfl (by omega)) (Wanted.guard rfl rfl rfl) rfl rfl ?_
        refine TQ.pv (PV.fieldAddr rfl) (Wanted.guard rfl rfl rfl) rfl rfl ?_
        refine TQ.pv (PV.loadSub rfl (by assumption) rfl) (Wanted.guard rfl rfl rfl) rfl rfl ?_
        refine TQ.pv (PV.gtr rfl rfl) (Wanted.guard rfl rfl rfl) rfl rfl ?_
        refine TQ.pv (PV.pickF rfl rfl rfl) Wanted.none rfl rfl ?_
        refine TQ.pv (PV.move rfl) Wanted.none rfl rfl ?_
        refine TQ.setF (d := 36) rfl (by omega) ?_
        refine TQ.pv (PV.fieldAddr rfl) (Wanted.guard rfl rfl rfl) rfl rfl ?_
        refine TQ.pv (PV.load1 rfl zq0 rfl) (Wanted.guard rfl rfl rfl) rfl rfl ?_
        refine TQ.pv (PV.fieldAddr rfl) (Wanted.guard rfl rfl rfl) rfl rfl ?_
        refine TQ.pv (PV.load1 rfl zq0 rfl) (Wanted.guard rfl rfl rfl) rfl rfl ?_
        refine TQ.pv (PV.lenSl rfl) (Wanted.guard rfl rfl rfl) rfl rfl ?_
        refine TQ.pv (PV.gtr rfl rfl) (Wanted.guard rfl rfl rfl) rfl rfl ?_
        refine TQ.pv (PV.pickF rfl rfl rfl) Wanted.none rfl rfl ?_
        refine TQ.nil ?_
        refine sd rfl (by omega) ?_
        refine T.skip ?_
        refine T.freezeB (b := b2) zq1 ?_
        intro H1 hle1 hb2
        have hsub := hsub.mono hle1
        have hca := containsFunc_int m.ls (.slice al m.ls.length cl) H1 (hml.mono hle1) (by omega) (fun x => !labOk c.tk.length x) 74 [.pointer (some ⟨b2, 0, none⟩)]
          (fun x _ => fits1_fn c x b2 H1 (hc.mono hle1) (by rw [show (cpC c).toArray = _ from Value.agg.inj hcv]; exact hb2))
        have hall : (m.ls.any fun x => !labOk c.tk.length x) = !m.ls.all (labOk c.tk.length) := by rw [List.all_eq_not_any_not, Bool.not_not]
        rw [hall] at hca
        rw [hfb] at hf
        cases hq : m.ls.all (labOk c.tk.length)
        · rw [hq, if_neg (by simp)] at hf
          rw [hq] at hca
          refine sq ?_
          refine sq ?_
          refine sr ?_
          refine sf ?_
          refine sl ?_
          refine sv (PV.makeFunc rfl) ?_
          refine T.callV Wanted.none rfl rfl (hca) ?_
          refine so ?_
          refine T.condT rfl rfl ?_
          refine sq ?_
          refine sr ?_
          refine sv (PV.build rfl zq12) ?_
          refine T.storeA Wanted.none rfl rfl zq8 (by exact rfl) zq14 zq13 ?_
          refine sa ?_
          refine so ?_
          exact T.retF (Lv.fin (RV.cellTmp rfl zq7 rfl) (by rw [hf]; rfl))
        · rw [hq, if_pos rfl] at hf
          rw [hq] at hca
          refine sq ?_
          refine sq ?_
          refine sr ?_
          refine sf ?_
          refine sl ?_
          refine sv (PV.makeFunc rfl) ?_
          refine T.callV Wanted.none rfl rfl (hca) ?_
          refine so ?_
          refine T.condF rfl rfl ?_
          refine T.skip ?_
          refine sq ?_
          refine sr ?_
          refine sf ?_
          refine sl ?_
          refine sm ?_
          refine sv (PV.indexAddr rfl rfl (by omega)) ?_
          refine sv (PV.loadSubAll rfl (by assumption) (by exact rfl)) ?_
          refine T.storeA Wanted.none rfl rfl zq8 (by exact rfl) zq14 zq13 ?_
          refine sa ?_
          refine so ?_
          exact T.retF (Lv.fin (RV.cellTmp rfl zq7 rfl) (by rw [hf, Option.getD_some]; unfold rgV; rw [hkv]; rfl))
theorem fitP {c : Cp} {m : Mt} {t : Rg} (hg : CpW c) (h : fitO c m = some t) : FitP c m t := by
  obtain ⟨h1, h2, h3, h4, h5, h6, h7⟩ := fitO_some hg h
  exact ⟨h2, h3, h4, h5, h6, h7⟩
end Go.Proofs.YtlklcjpmfjmenaaGreatDoor
