/- lines: the value of a key: the program, the reference.
   lines: the value of a key: the reference. -/
import Derived.Test.YthacphfjchpoaaaDoorGC
namespace Go.Proofs.YthacphfjchpoaaaDoor
open Go.RowKit


theorem attI_range (l : List (ByteArray × Bool)) (nm : ByteArray) : -1 ≤ attI l nm ∧ attI l nm < l.length := by
  unfold attI
  rcases ixI_cases (fun a : ByteArray × Bool => decide (a.1 = nm)) l with ⟨h, _⟩ | ⟨i, x, h, hx, _⟩
  · rw [h]; omega
  · have := (List.getElem?_eq_some_iff.1 hx).1
    rw [h]; omega
theorem fold_size (s : ByteArray) (hs : s.size ≤ 4000) : ByteArray.size ⟨(foldL s).toArray⟩ ≤ 16000 := by
  have hul := units_len s
  have := flat_le (f := foldU s) (m := 4) (units s) (fun y hy => foldU_le hy)
  have h2 : ByteArray.size ⟨(foldL s).toArray⟩ = (foldL s).length := by simp [ByteArray.size]
  rw [h2]
  unfold foldL
  omega
theorem posP_range {c : Cp} {lb : List ByteArray} {m : Mt} {t : Rg} {a off : Int} {s : ByteArray} (hf : FitP c m t) (h : ¬ posP lb m t a off s < 0) : 0 ≤ posP lb m t a off s ∧ posP lb m t a off s < c.tk.length := by
  obtain ⟨f1, f2, f3, f4, f5, f6⟩ := hf
  revert h
  unfold posP
  split
  · intro h; exact absurd (by omega) h
  · intro h; omega
theorem fb_fold {k : Ky} {s : ByteArray} (hs : s.size ≤ 4000) : (fb1 k s).size ≤ 16000 := by
  unfold fb1
  split
  · exact fold_size s hs
  · omega
theorem value_in (c : Cp) (lb : List ByteArray) (vl : Value) (m : Mt) (k : Ky) (H : Hp) (hc : CpL H c) (hw : CpW c) (hlb : StL H vl lb) (hm : LabOk H m) (hl : m.ls.length ≤ 1000) :
    Fn Tryd.prog 67 #[cpV c, vl, mtV m, kyV k] H (fun u _ => u = .string (valO c lb m k)) := by
  have hfi := fits_in c m H hc hw hm hl
  have hat := attribute_in c.att c.va k.nm H hc.a hc.la
  have hatr := attI_range c.att k.nm
  obtain ⟨al, cl, hmv⟩ := hm.1.len
  obtain ⟨ab, cb, rfl⟩ := hlb.len
  unfold cpV mtV at hfi
  unfold cpV mtV kyV
  rw [hmv] at hfi ⊢
  refine Fn.of_T (vs := [.agg #[c.va, c.vt, c.vx, c.vr, c.vn, c.vh, c.vs], .slice ab lb.length cb, .agg #[.int .i64 m.b, .int .i64 m.e, .slice al m.ls.length cl], .agg #[.int .i64 k.at_, .int .i64 k.off, .string k.lb, .string k.nm, .bool k.fold, .bool k.back, .bool k.fall]]) Tryd.func67 rfl rfl fun w => ?_
  cases hf : fitO c m with
  | none =>
    rw [hf] at hfi
    change Fn _ _ _ _ (fun u _ => u = .tuple #[.agg #[.string (bs []), .int .i64 0, .int .i64 0, .slice none 0 0], .bool false]) at hfi
    refine zs3 ?_; (refine T.box Wanted.none rfl rfl zq15 ?_; intro b4); (refine T.box Wanted.none rfl rfl zq15 ?_; intro b6); (refine T.box Wanted.none rfl rfl zq15 ?_; intro b7); refine sa ?_; refine zs1 ?_; refine sv (PV.loadAll rfl zq0 (by exact rfl)) ?_; refine sv (PV.loadAll rfl zq0 (by exact rfl)) ?_; refine T.callV Wanted.none rfl rfl (hfi) ?_; refine sm ?_; refine sv (PV.extract rfl rfl) ?_; refine sv (PV.extract rfl rfl) ?_; refine sy fun b9 => ?_; refine T.storeA Wanted.none rfl rfl zq8 (by exact rfl) zq14 zq13 ?_; refine sa ?_; refine zs1 ?_; refine sf ?_; refine sl ?_; refine sf ?_; refine sl ?_; refine T.callV Wanted.none rfl rfl (hat) ?_; refine sa ?_; refine so ?_; refine sq ?_; refine zs3 ?_; refine sm ?_; refine sv (PV.not rfl) ?_; refine sm ?_; refine sp ?_; refine sp ?_; refine sT ?_; refine sm ?_; refine sp ?_; refine sp ?_; refine sp ?_; refine sp ?_; refine sp ?_; refine sp ?_; refine sT ?_; refine so ?_
    refine T.condT rfl rfl ?_; refine zs3 ?_; refine sa ?_; refine so ?_
    exact T.retF (Lv.fin (RV.tmp rfl rfl) (by unfold valO; rw [hf]; rfl))
  | some t =>
    have hfp := fitP hw hf
    have hmem := (fitO_some hw hf).1
    have hrg := hc.x.2 t hmem
    obtain ⟨am, cm, hkv⟩ := hrg.1.len
    rw [hf, Option.getD_some] at hfi
    unfold rgV at hfi
    rw [hkv] at hfi
    change Fn _ _ _ _ (fun u _ => u = .tuple #[.agg #[.string t.ty, .int .i64 t.b, .int .i64 t.e, .slice am t.ks.length cm], .bool true]) at hfi
    by_cases ha : attI c.att k.nm < 0
    · refine zs3 ?_; (refine T.box Wanted.none rfl rfl zq15 ?_; intro b4); (refine T.box Wanted.none rfl rfl zq15 ?_; intro b6); (refine T.box Wanted.none rfl rfl zq15 ?_; intro b7); refine sa ?_; refine zs1 ?_; refine sv (PV.loadAll rfl zq0 (by exact rfl)) ?_; refine sv (PV.loadAll rfl zq0 (by exact rfl)) ?_; refine T.callV Wanted.none rfl rfl (hfi) ?_; refine sm ?_; refine sv (PV.extract rfl rfl) ?_; refine sv (PV.extract rfl rfl) ?_; refine sy fun b9 => ?_; refine T.storeA Wanted.none rfl rfl zq8 (by exact rfl) zq14 zq13 ?_; refine sa ?_; refine zs1 ?_; refine sf ?_; refine sl ?_; refine sf ?_; refine sl ?_; refine T.callV Wanted.none rfl rfl (hat) ?_; refine sa ?_; refine so ?_; refine sq ?_; refine zs3 ?_; refine sm ?_; refine sv (PV.not rfl) ?_; refine sm ?_; refine gm ?_; refine gv (PV.lss rfl rfl) ?_; refine sF ?_; refine sm ?_; refine T.setT (d := 31) rfl (by omega) ?_; refine sp ?_; refine sp ?_; refine sp ?_; refine sp ?_; refine sp ?_; refine sp ?_; refine sT ?_
      refine so ?_; refine T.condT rfl rfl ?_; refine zs3 ?_; refine sa ?_; refine so ?_
      exact T.retF (Lv.fin (RV.tmp rfl rfl) (by unfold valO; rw [hf]; dsimp only; rw [if_pos (.inl ha)]; rfl))
    · by_cases hll : lb.length = m.ls.length
      · have hpo := position_in c lb (.slice ab lb.length cb) m t k.at_ k.off k.lb H hc hfp hlb hll hl hm hrg
        unfold mtV rgV at hpo
        rw [hmv, hkv] at hpo
        have hll2 : ((lb.length : Nat) : Int) = (m.ls.length : Nat) := by omega
        by_cases hp : posP lb m t k.at_ k.off k.lb < 0
        · refine zs3 ?_; (refine T.box Wanted.none rfl rfl zq15 ?_; intro b4); (refine T.box Wanted.none rfl rfl zq15 ?_; intro b6); (refine T.box Wanted.none rfl rfl zq15 ?_; intro b7); refine sa ?_; refine zs1 ?_; refine sv (PV.loadAll rfl zq0 (by exact rfl)) ?_; refine sv (PV.loadAll rfl zq0 (by exact rfl)) ?_; refine T.callV Wanted.none rfl rfl (hfi) ?_; refine sm ?_; refine sv (PV.extract rfl rfl) ?_; refine sv (PV.extract rfl rfl) ?_; refine sy fun b9 => ?_; refine T.storeA Wanted.none rfl rfl zq8 (by exact rfl) zq14 zq13 ?_; refine sa ?_; refine zs1 ?_; refine sf ?_; refine sl ?_; refine sf ?_; refine sl ?_; refine T.callV Wanted.none rfl rfl (hat) ?_; refine sa ?_; refine so ?_; refine sq ?_; refine zs3 ?_; refine sm ?_; refine sv (PV.not rfl) ?_; refine sm ?_; refine gm ?_; refine gv (PV.lss rfl rfl) ?_; refine sF ?_; refine sm ?_; refine T.setF (d := 31) rfl (by omega) ?_; refine gm ?_; refine gv (PV.lenSl rfl) ?_; refine gf ?_; refine gl ?_; refine gv (PV.lenSl rfl) ?_; refine gv (PV.neq rfl rfl) ?_; refine sF ?_
          refine so ?_; refine sd rfl (by omega) ?_; refine T.skip ?_; refine zs3 ?_; refine sm ?_; refine sv (PV.loadAll rfl zq0 (by exact rfl)) ?_; refine sv (PV.loadAll rfl zq0 (by exact rfl)) ?_; refine sf ?_; refine sl ?_; refine sf ?_; refine sl ?_; refine sf ?_; refine sl ?_; refine T.callV Wanted.none rfl rfl (hpo) ?_; refine sa ?_; refine so ?_; refine sq ?_; refine zs3 ?_; refine sm ?_; refine sv (PV.lss rfl rfl) ?_; refine so ?_; refine sc rfl (by omega) ?_; refine zs3 ?_; refine sa ?_; refine so ?_
          exact T.retF (Lv.fin (RV.tmp rfl rfl) (by unfold valO; rw [hf]; dsimp only; rw [if_pos (.inr (.inr hp))]; rfl))
        · have hto := tok_in c (posP lb m t k.at_ k.off k.lb) (attI c.att k.nm) H hc hw (posP_range hfp hp) (by omega)
          obtain ⟨_, s, _, _, e3, _, _, e6⟩ := tokAt c H hc hw (posP_range hfp hp) (a := attI c.att k.nm) (by omega)
          rw [e3] at hto
          unfold cpV at hto
          have hv : valO c lb m k = fb2 k (fb1 k s) := by unfold valO; rw [hf]; dsimp only; rw [if_neg (by rintro (h | h | h) <;> contradiction), e3]
          have hfo := fold_fn s H (by omega)
          have hre := reverse_fn (fb1 k s) H (by have := fb_fold (k := k) e6; omega)
          cases hk4 : k.fold
          · have e1 : fb1 k s = s := by unfold fb1; rw [hk4]; rfl
            rw [e1] at hv hre
            cases hk5 : k.back
            · refine zs3 ?_; (refine T.box Wanted.none rfl rfl zq15 ?_; intro b4); (refine T.box Wanted.none rfl rfl zq15 ?_; intro b6); (refine T.box Wanted.none rfl rfl zq15 ?_; intro b7); refine sa ?_; refine zs1 ?_; refine sv (PV.loadAll rfl zq0 (by exact rfl)) ?_; refine sv (PV.loadAll rfl zq0 (by exact rfl)) ?_; refine T.callV Wanted.none rfl rfl (hfi) ?_; refine sm ?_; refine sv (PV.extract rfl rfl) ?_; refine sv (PV.extract rfl rfl) ?_; refine sy fun b9 => ?_; refine T.storeA Wanted.none rfl rfl zq8 (by exact rfl) zq14 zq13 ?_; refine sa ?_; refine zs1 ?_; refine sf ?_; refine sl ?_; refine sf ?_; refine sl ?_; refine T.callV Wanted.none rfl rfl (hat) ?_; refine sa ?_; refine so ?_; refine sq ?_; refine zs3 ?_; refine sm ?_; refine sv (PV.not rfl) ?_; refine sm ?_; refine gm ?_; refine gv (PV.lss rfl rfl) ?_; refine sF ?_; refine sm ?_; refine T.setF (d := 31) rfl (by omega) ?_; refine gm ?_; refine gv (PV.lenSl rfl) ?_; refine gf ?_; refine gl ?_; refine gv (PV.lenSl rfl) ?_; refine gv (PV.neq rfl rfl) ?_; refine sF ?_
              refine so ?_; refine sd rfl (by omega) ?_; refine T.skip ?_; refine zs3 ?_; refine sm ?_; refine sv (PV.loadAll rfl zq0 (by exact rfl)) ?_; refine sv (PV.loadAll rfl zq0 (by exact rfl)) ?_; refine sf ?_; refine sl ?_; refine sf ?_; refine sl ?_; refine sf ?_; refine sl ?_; refine T.callV Wanted.none rfl rfl (hpo) ?_; refine sa ?_; refine so ?_; refine sq ?_; refine zs3 ?_; refine sm ?_; refine sv (PV.lss rfl rfl) ?_; refine so ?_; refine sd rfl (by omega) ?_; refine T.skip ?_; refine zs3 ?_; refine sv (PV.loadAll rfl zq0 (by exact rfl)) ?_; refine sm ?_; refine sm ?_; refine T.callV Wanted.none rfl rfl (hto) ?_; refine sa ?_; refine so ?_; refine sq ?_; refine zs3 ?_; refine sf ?_; refine sl ?_; refine so ?_; refine T.condF rfl rfl ?_; refine T.skip ?_; refine sq ?_; refine zs3 ?_; refine sf ?_
              refine sl ?_; refine so ?_; refine T.condF rfl rfl ?_; refine T.skip ?_; refine zs3 ?_; refine sm ?_; refine sa ?_; refine so ?_
              exact T.retF (Lv.fin (RV.tmp rfl rfl) (by rw [hv]; unfold fb2; rw [hk5]; rfl))
            · refine zs3 ?_; (refine T.box Wanted.none rfl rfl zq15 ?_; intro b4); (refine T.box Wanted.none rfl rfl zq15 ?_; intro b6); (refine T.box Wanted.none rfl rfl zq15 ?_; intro b7); refine sa ?_; refine zs1 ?_; refine sv (PV.loadAll rfl zq0 (by exact rfl)) ?_; refine sv (PV.loadAll rfl zq0 (by exact rfl)) ?_; refine T.callV Wanted.none rfl rfl (hfi) ?_; refine sm ?_; refine sv (PV.extract rfl rfl) ?_; refine sv (PV.extract rfl rfl) ?_; refine sy fun b9 => ?_; refine T.storeA Wanted.none rfl rfl zq8 (by exact rfl) zq14 zq13 ?_; refine sa ?_; refine zs1 ?_; refine sf ?_; refine sl ?_; refine sf ?_; refine sl ?_; refine T.callV Wanted.none rfl rfl (hat) ?_; refine sa ?_; refine so ?_; refine sq ?_; refine zs3 ?_; refine sm ?_; refine sv (PV.not rfl) ?_; refine sm ?_; refine gm ?_; refine gv (PV.lss rfl rfl) ?_; refine sF ?_; refine sm ?_; refine T.setF (d := 31) rfl (by omega) ?_; refine gm ?_; refine gv (PV.lenSl rfl) ?_; refine gf ?_; refine gl ?_; refine gv (PV.lenSl rfl) ?_; refine gv (PV.neq rfl rfl) ?_; refine sF ?_
              refine so ?_; refine sd rfl (by omega) ?_; refine T.skip ?_; refine zs3 ?_; refine sm ?_; refine sv (PV.loadAll rfl zq0 (by exact rfl)) ?_; refine sv (PV.loadAll rfl zq0 (by exact rfl)) ?_; refine sf ?_; refine sl ?_; refine sf ?_; refine sl ?_; refine sf ?_; refine sl ?_; refine T.callV Wanted.none rfl rfl (hpo) ?_; refine sa ?_; refine so ?_; refine sq ?_; refine zs3 ?_; refine sm ?_; refine sv (PV.lss rfl rfl) ?_; refine so ?_; refine sd rfl (by omega) ?_; refine T.skip ?_; refine zs3 ?_; refine sv (PV.loadAll rfl zq0 (by exact rfl)) ?_; refine sm ?_; refine sm ?_; refine T.callV Wanted.none rfl rfl (hto) ?_; refine sa ?_; refine so ?_; refine sq ?_; refine zs3 ?_; refine sf ?_; refine sl ?_; refine so ?_; refine T.condF rfl rfl ?_; refine T.skip ?_; refine sq ?_; refine zs3 ?_; refine sf ?_
              refine sl ?_; refine so ?_; refine T.condT rfl rfl ?_; refine sr ?_; refine sm ?_; refine T.callV Wanted.none rfl rfl (hre) ?_; refine sa ?_; refine zs1 ?_; refine sm ?_; refine sa ?_; refine so ?_
              exact T.retF (Lv.fin (RV.tmp rfl rfl) (by rw [hv]; unfold fb2; rw [hk5]; rfl))
          · have e1 : fb1 k s = ⟨(foldL s).toArray⟩ := by unfold fb1; rw [hk4]; rfl
            rw [e1] at hv hre
            cases hk5 : k.back
            · refine zs3 ?_; (refine T.box Wanted.none rfl rfl zq15 ?_; intro b4); (refine T.box Wanted.none rfl rfl zq15 ?_; intro b6); (refine T.box Wanted.none rfl rfl zq15 ?_; intro b7); refine sa ?_; refine zs1 ?_; refine sv (PV.loadAll rfl zq0 (by exact rfl)) ?_; refine sv (PV.loadAll rfl zq0 (by exact rfl)) ?_; refine T.callV Wanted.none rfl rfl (hfi) ?_; refine sm ?_; refine sv (PV.extract rfl rfl) ?_; refine sv (PV.extract rfl rfl) ?_; refine sy fun b9 => ?_; refine T.storeA Wanted.none rfl rfl zq8 (by exact rfl) zq14 zq13 ?_; refine sa ?_; refine zs1 ?_; refine sf ?_; refine sl ?_; refine sf ?_; refine sl ?_; refine T.callV Wanted.none rfl rfl (hat) ?_; refine sa ?_; refine so ?_; refine sq ?_; refine zs3 ?_; refine sm ?_; refine sv (PV.not rfl) ?_; refine sm ?_; refine gm ?_; refine gv (PV.lss rfl rfl) ?_; refine sF ?_; refine sm ?_; refine T.setF (d := 31) rfl (by omega) ?_; refine gm ?_; refine gv (PV.lenSl rfl) ?_; refine gf ?_; refine gl ?_; refine gv (PV.lenSl rfl) ?_; refine gv (PV.neq rfl rfl) ?_; refine sF ?_
              refine so ?_; refine sd rfl (by omega) ?_; refine T.skip ?_; refine zs3 ?_; refine sm ?_; refine sv (PV.loadAll rfl zq0 (by exact rfl)) ?_; refine sv (PV.loadAll rfl zq0 (by exact rfl)) ?_; refine sf ?_; refine sl ?_; refine sf ?_; refine sl ?_; refine sf ?_; refine sl ?_; refine T.callV Wanted.none rfl rfl (hpo) ?_; refine sa ?_; refine so ?_; refine sq ?_; refine zs3 ?_; refine sm ?_; refine sv (PV.lss rfl rfl) ?_; refine so ?_; refine sd rfl (by omega) ?_; refine T.skip ?_; refine zs3 ?_; refine sv (PV.loadAll rfl zq0 (by exact rfl)) ?_; refine sm ?_; refine sm ?_; refine T.callV Wanted.none rfl rfl (hto) ?_; refine sa ?_; refine so ?_; refine sq ?_; refine zs3 ?_; refine sf ?_; refine sl ?_; refine so ?_; refine T.condT rfl rfl ?_; refine sr ?_; refine sm ?_; refine T.callV Wanted.none rfl rfl (hfo) ?_; refine sa ?_
              refine so ?_; refine sq ?_; refine zs3 ?_; refine sf ?_; refine sl ?_; refine so ?_; refine T.condF rfl rfl ?_; refine T.skip ?_; refine zs3 ?_; refine sm ?_; refine sa ?_; refine so ?_
              exact T.retF (Lv.fin (RV.tmp rfl rfl) (by rw [hv]; unfold fb2; rw [hk5]; rfl))
            · refine zs3 ?_; (refine T.box Wanted.none rfl rfl zq15 ?_; intro b4); (refine T.box Wanted.none rfl rfl zq15 ?_; intro b6); (refine T.box Wanted.none rfl rfl zq15 ?_; intro b7); refine sa ?_; refine zs1 ?_; refine sv (PV.loadAll rfl zq0 (by exact rfl)) ?_; refine sv (PV.loadAll rfl zq0 (by exact rfl)) ?_; refine T.callV Wanted.none rfl rfl (hfi) ?_; refine sm ?_; refine sv (PV.extract rfl rfl) ?_; refine sv (PV.extract rfl rfl) ?_; refine sy fun b9 => ?_; refine T.storeA Wanted.none rfl rfl zq8 (by exact rfl) zq14 zq13 ?_; refine sa ?_; refine zs1 ?_; refine sf ?_; refine sl ?_; refine sf ?_; refine sl ?_; refine T.callV Wanted.none rfl rfl (hat) ?_; refine sa ?_; refine so ?_; refine sq ?_; refine zs3 ?_; refine sm ?_; refine sv (PV.not rfl) ?_; refine sm ?_; refine gm ?_; refine gv (PV.lss rfl rfl) ?_; refine sF ?_; refine sm ?_; refine T.setF (d := 31) rfl (by omega) ?_; refine gm ?_; refine gv (PV.lenSl rfl) ?_; refine gf ?_; refine gl ?_; refine gv (PV.lenSl rfl) ?_; refine gv (PV.neq rfl rfl) ?_; refine sF ?_
              refine so ?_; refine sd rfl (by omega) ?_; refine T.skip ?_; refine zs3 ?_; refine sm ?_; refine sv (PV.loadAll rfl zq0 (by exact rfl)) ?_; refine sv (PV.loadAll rfl zq0 (by exact rfl)) ?_; refine sf ?_; refine sl ?_; refine sf ?_; refine sl ?_; refine sf ?_; refine sl ?_; refine T.callV Wanted.none rfl rfl (hpo) ?_; refine sa ?_; refine so ?_; refine sq ?_; refine zs3 ?_; refine sm ?_; refine sv (PV.lss rfl rfl) ?_; refine so ?_; refine sd rfl (by omega) ?_; refine T.skip ?_; refine zs3 ?_; refine sv (PV.loadAll rfl zq0 (by exact rfl)) ?_; refine sm ?_; refine sm ?_; refine T.callV Wanted.none rfl rfl (hto) ?_; refine sa ?_; refine so ?_; refine sq ?_; refine zs3 ?_; refine sf ?_; refine sl ?_; refine so ?_; refine T.condT rfl rfl ?_; refine sr ?_; refine sm ?_; refine T.callV Wanted.none rfl rfl (hfo) ?_; refine sa ?_
              refine so ?_; refine sq ?_; refine zs3 ?_; refine sf ?_; refine sl ?_; refine so ?_; refine T.condT rfl rfl ?_; refine sr ?_; refine sm ?_; refine T.callV Wanted.none rfl rfl (hre) ?_; refine sa ?_; refine zs1 ?_; refine sm ?_; refine sa ?_; refine so ?_
              exact T.retF (Lv.fin (RV.tmp rfl rfl) (by rw [hv]; unfold fb2; rw [hk5]; rfl))
      · have hll2 : ¬ ((lb.length : Nat) : Int) = (m.ls.length : Nat) := by omega
        refine zs3 ?_; (refine T.box Wanted.none rfl rfl zq15 ?_; intro b4); (refine T.box Wanted.none rfl rfl zq15 ?_; intro b6); (refine T.box Wanted.none rfl rfl zq15 ?_; intro b7); refine sa ?_; refine zs1 ?_; refine sv (PV.loadAll rfl zq0 (by exact rfl)) ?_; refine sv (PV.loadAll rfl zq0 (by exact rfl)) ?_; refine T.callV Wanted.none rfl rfl (hfi) ?_; refine sm ?_; refine sv (PV.extract rfl rfl) ?_; refine sv (PV.extract rfl rfl) ?_; refine sy fun b9 => ?_; refine T.storeA Wanted.none rfl rfl zq8 (by exact rfl) zq14 zq13 ?_; refine sa ?_; refine zs1 ?_; refine sf ?_; refine sl ?_; refine sf ?_; refine sl ?_; refine T.callV Wanted.none rfl rfl (hat) ?_; refine sa ?_; refine so ?_; refine sq ?_; refine zs3 ?_; refine sm ?_; refine sv (PV.not rfl) ?_; refine sm ?_; refine gm ?_; refine gv (PV.lss rfl rfl) ?_; refine sF ?_; refine sm ?_; refine T.setF (d := 31) rfl (by omega) ?_; refine gm ?_; refine gv (PV.lenSl rfl) ?_; refine gf ?_; refine gl ?_; refine gv (PV.lenSl rfl) ?_; refine gv (PV.neq rfl rfl) ?_; refine sF ?_
        refine so ?_; refine sc rfl (by omega) ?_; refine zs3 ?_; refine sa ?_; refine so ?_
        exact T.retF (Lv.fin (RV.tmp rfl rfl) (by unfold valO; rw [hf]; dsimp only; rw [if_pos (.inr (.inl hll))]; rfl))

end Go.Proofs.YthacphfjchpoaaaDoor
namespace Go.Proofs.YthacphfjchpoaaaDoor
open Go.RowKit


end Go.Proofs.YthacphfjchpoaaaDoor
