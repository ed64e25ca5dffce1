/- lines: the value of a key: the program, the reference.
   lines: the value of a key: the reference. -/
import Derived.Test.YthacphfjchpoaaaGreatDoorGC
namespace Go.Proofs.YthacphfjchpoaaaGreatDoor
open Go.RowKit

theorem attI_range (l : List (ByteArray × Bool)) (nm : ByteArray) : -1 ≤ attI l nm ∧ attI l nm < l.length := by
  unfold attI
  rcases ixI_cases (fun a : ByteArray × Bool => decide (a.1 = nm)) l with ⟨h, _⟩ | ⟨i, x, h, hx, _⟩
  · rw [h]; omega
  · have := (List.getElem?_eq_some_iff.1 hx).1
    rw [h]; omega
theorem fold_size (s : ByteArray) (hs : s.size ≤ 4000) : ByteArray.size ⟨(foldL s).toArray⟩ ≤ 16000 := by
  have hul := units_len s
  have := flat_le (f := foldU s) (m := 4) (units s) (fun y hy => foldU_le hy)
  have h2 : ByteArray.size ⟨(foldL s).toArray⟩ = (foldL s).length := by simp [ByteArray.size]
  rw [h2]
  unfold foldL
  omega
theorem posP_range {c : Cp} {lb : List ByteArray} {m : Mt} {t : Rg} {a off : Int} {s : ByteArray} (hf : FitP c m t) (h : ¬ posP lb m t a off s < 0) : 0 ≤ posP lb m t a off s ∧ posP lb m t a off s < c.tk.length := by
  obtain ⟨f1, f2, f3, f4, f5, f6⟩ := hf
  revert h
  unfold posP
  split
  · intro h; exact absurd (by omega) h
  · intro h; omega
theorem fb_fold {k : Ky} {s : ByteArray} (hs : s.size ≤ 4000) : (fb1 k s).size ≤ 16000 := by
  unfold fb1
  split
  · exact fold_size s hs
  · omega
theorem value_in (c : Cp) (lb : List ByteArray) (vl : Value) (m : Mt) (k : Ky) (H : Hp) (hc : CpL H c) (hw : CpW c) (hlb : StL H vl lb) (hm : LabOk H m) (hl : m.ls.length ≤ 1000) :
    Fn Tryz.prog 71 #[cpV c, vl, mtV m, kyV k] H (fun u _ => u = .string (valO c lb m k)) := by
  have hfi := fits_in c m H hc hw hm hl
  have hat := attribute_in c.att c.va k.nm H hc.a hc.la
  have hatr := attI_range c.att k.nm
  obtain ⟨al, cl, hmv⟩ := hm.1.len
  obtain ⟨ab, cb, rfl⟩ := hlb.len
  unfold cpV mtV at hfi
  unfold cpV mtV kyV
  rw [hmv] at hfi ⊢
  refine Fn.of_T (vs := [.agg #[c.va, c.vt, c.vx, c.vr, c.vn, c.vh, c.vs], .slice ab lb.length cb, .agg #[.int .i64 m.b, .int .i64 m.e, .slice al m.ls.length cl], .agg #[.int .i64 k.at_, .int .i64 k.off, .string k.lb, .string k.nm, .bool k.fold, .bool k.back, .bool k.fall]]) Tryz.func71 rfl rfl fun w => ?_
  cases hf : fitO c m with
  | none =>
    rw [hf] at hfi
    change Fn _ _ _ _ (fun u _ => u = .tuple #[.agg #[.string (bs []), .int .i64 0, .int .i64 0, .slice none 0 0], .bool false]) at hfi
    refine zs3 ?_; (refine T.box Wanted.none rfl rfl zq15 ?_; intro b4); (refine T.box Wanted.none rfl rfl zq15 ?_; intro b6); (refine T.box Wanted.none rfl rfl zq15 ?_; intro b7); refine yq23 ?_; refine yq20 ?_; refine T.callV Wanted.none rfl rfl (hfi) ?_; refine yq146 ?_; refine sy fun b9 => ?_; refine yq98 ?_; refine yq148 ?_; refine T.callV Wanted.none rfl rfl (hat) ?_; refine yq127 ?_; refine yq107 ?_; refine yq8 ?_; refine yq141 ?_; refine yq149 ?_; refine sT ?_; refine so ?_
    refine yq196 ?_
    exact T.retF (Lv.fin (RV.tmp rfl rfl) (by unfold valO; rw [hf]; rfl))
  | some t =>
    have hfp := fitP hw hf
    have hmem := (fitO_some hw hf).1
    have hrg := hc.x.2 t hmem
    obtain ⟨am, cm, hkv⟩ := hrg.1.len
    rw [hf, Option.getD_some] at hfi
    unfold rgV at hfi
    rw [hkv] at hfi
    change Fn _ _ _ _ (fun u _ => u = .tuple #[.agg #[.string t.ty, .int .i64 t.b, .int .i64 t.e, .slice am t.ks.length cm], .bool true]) at hfi
    by_cases ha : attI c.att k.nm < 0
    · refine zs3 ?_; (refine T.box Wanted.none rfl rfl zq15 ?_; intro b4); (refine T.box Wanted.none rfl rfl zq15 ?_; intro b6); (refine T.box Wanted.none rfl rfl zq15 ?_; intro b7); refine yq23 ?_; refine yq20 ?_; refine T.callV Wanted.none rfl rfl (hfi) ?_; refine yq146 ?_; refine sy fun b9 => ?_; refine yq98 ?_; refine yq148 ?_; refine T.callV Wanted.none rfl rfl (hat) ?_; refine yq127 ?_; refine yq107 ?_; refine gm ?_; refine yq139 ?_; refine T.setT (d := 31) rfl (by omega) ?_; refine yq149 ?_; refine sT ?_
      refine yq36 ?_; refine yq25 ?_
      exact T.retF (Lv.fin (RV.tmp rfl rfl) (by unfold valO; rw [hf]; dsimp only; rw [if_pos (.inl ha)]; rfl))
    · by_cases hll : lb.length = m.ls.length
      · have hpo := position_in c lb (.slice ab lb.length cb) m t k.at_ k.off k.lb H hc hfp hlb hll hl hm hrg
        unfold mtV rgV at hpo
        rw [hmv, hkv] at hpo
        have hll2 : ((lb.length : Nat) : Int) = (m.ls.length : Nat) := by omega
        by_cases hp : posP lb m t k.at_ k.off k.lb < 0
        · refine zs3 ?_; (refine T.box Wanted.none rfl rfl zq15 ?_; intro b4); (refine T.box Wanted.none rfl rfl zq15 ?_; intro b6); (refine T.box Wanted.none rfl rfl zq15 ?_; intro b7); refine yq23 ?_; refine yq20 ?_; refine T.callV Wanted.none rfl rfl (hfi) ?_; refine yq146 ?_; refine sy fun b9 => ?_; refine yq98 ?_; refine yq148 ?_; refine T.callV Wanted.none rfl rfl (hat) ?_; refine yq127 ?_; refine yq107 ?_; refine gm ?_; refine yq139 ?_; refine T.setF (d := 31) rfl (by omega) ?_; refine yq114 ?_; refine yq96 ?_; refine yq160 ?_
          refine yq88 ?_; refine yq2 ?_; refine yq20 ?_; refine yq148 ?_; refine yq5 ?_; refine T.callV Wanted.none rfl rfl (hpo) ?_; refine yq127 ?_; refine yq3 ?_; refine sc rfl (by omega) ?_; refine yq25 ?_
          exact T.retF (Lv.fin (RV.tmp rfl rfl) (by unfold valO; rw [hf]; dsimp only; rw [if_pos (.inr (.inr hp))]; rfl))
        · have hto := tok_in c (posP lb m t k.at_ k.off k.lb) (attI c.att k.nm) H hc hw (posP_range hfp hp) (by omega)
          obtain ⟨_, s, _, _, e3, _, _, e6⟩ := tokAt c H hc hw (posP_range hfp hp) (a := attI c.att k.nm) (by omega)
          rw [e3] at hto
          unfold cpV at hto
          have hv : valO c lb m k = fb2 k (fb1 k s) := by unfold valO; rw [hf]; dsimp only; rw [if_neg (by rintro (h | h | h) <;> contradiction), e3]
          have hfo := fold_fn s H (by omega)
          have hre := reverse_fn (fb1 k s) H (by have := fb_fold (k := k) e6; omega)
          cases hk4 : k.fold
          · have e1 : fb1 k s = s := by unfold fb1; rw [hk4]; rfl
            rw [e1] at hv hre
            cases hk5 : k.back
            · refine zs3 ?_; (refine T.box Wanted.none rfl rfl zq15 ?_; intro b4); (refine T.box Wanted.none rfl rfl zq15 ?_; intro b6); (refine T.box Wanted.none rfl rfl zq15 ?_; intro b7); refine yq23 ?_; refine yq20 ?_; refine T.callV Wanted.none rfl rfl (hfi) ?_; refine yq146 ?_; refine sy fun b9 => ?_; refine yq98 ?_; refine yq148 ?_; refine T.callV Wanted.none rfl rfl (hat) ?_; refine yq127 ?_; refine yq107 ?_; refine gm ?_; refine yq139 ?_; refine T.setF (d := 31) rfl (by omega) ?_; refine yq114 ?_; refine yq96 ?_; refine yq160 ?_
              refine yq88 ?_; refine yq2 ?_; refine yq20 ?_; refine yq148 ?_; refine yq5 ?_; refine T.callV Wanted.none rfl rfl (hpo) ?_; refine yq127 ?_; refine yq3 ?_; refine yq22 ?_; refine yq52 ?_; refine yq162 ?_; refine T.callV Wanted.none rfl rfl (hto) ?_; refine yq0 ?_; refine yq73 ?_; refine yq92 ?_; refine sq ?_; refine zs3 ?_; refine sf ?_
              refine sl ?_; refine yq92 ?_; refine yq140 ?_
              exact T.retF (Lv.fin (RV.tmp rfl rfl) (by rw [hv]; unfold fb2; rw [hk5]; rfl))
            · refine zs3 ?_; (refine T.box Wanted.none rfl rfl zq15 ?_; intro b4); (refine T.box Wanted.none rfl rfl zq15 ?_; intro b6); (refine T.box Wanted.none rfl rfl zq15 ?_; intro b7); refine yq23 ?_; refine yq20 ?_; refine T.callV Wanted.none rfl rfl (hfi) ?_; refine yq146 ?_; refine sy fun b9 => ?_; refine yq98 ?_; refine yq148 ?_; refine T.callV Wanted.none rfl rfl (hat) ?_; refine yq127 ?_; refine yq107 ?_; refine gm ?_; refine yq139 ?_; refine T.setF (d := 31) rfl (by omega) ?_; refine yq114 ?_; refine yq96 ?_; refine yq160 ?_
              refine yq88 ?_; refine yq2 ?_; refine yq20 ?_; refine yq148 ?_; refine yq5 ?_; refine T.callV Wanted.none rfl rfl (hpo) ?_; refine yq127 ?_; refine yq3 ?_; refine yq22 ?_; refine yq52 ?_; refine yq162 ?_; refine T.callV Wanted.none rfl rfl (hto) ?_; refine yq0 ?_; refine yq73 ?_; refine yq92 ?_; refine sq ?_; refine zs3 ?_; refine sf ?_
              refine sl ?_; refine yq36 ?_; refine yq81 ?_; refine T.callV Wanted.none rfl rfl (hre) ?_; refine yq56 ?_; refine yq0 ?_
              exact T.retF (Lv.fin (RV.tmp rfl rfl) (by rw [hv]; unfold fb2; rw [hk5]; rfl))
          · have e1 : fb1 k s = ⟨(foldL s).toArray⟩ := by unfold fb1; rw [hk4]; rfl
            rw [e1] at hv hre
            cases hk5 : k.back
            · refine zs3 ?_; (refine T.box Wanted.none rfl rfl zq15 ?_; intro b4); (refine T.box Wanted.none rfl rfl zq15 ?_; intro b6); (refine T.box Wanted.none rfl rfl zq15 ?_; intro b7); refine yq23 ?_; refine yq20 ?_; refine T.callV Wanted.none rfl rfl (hfi) ?_; refine yq146 ?_; refine sy fun b9 => ?_; refine yq98 ?_; refine yq148 ?_; refine T.callV Wanted.none rfl rfl (hat) ?_; refine yq127 ?_; refine yq107 ?_; refine gm ?_; refine yq139 ?_; refine T.setF (d := 31) rfl (by omega) ?_; refine yq114 ?_; refine yq96 ?_; refine yq160 ?_
              refine yq88 ?_; refine yq2 ?_; refine yq20 ?_; refine yq148 ?_; refine yq5 ?_; refine T.callV Wanted.none rfl rfl (hpo) ?_; refine yq127 ?_; refine yq3 ?_; refine yq22 ?_; refine yq52 ?_; refine yq162 ?_; refine T.callV Wanted.none rfl rfl (hto) ?_; refine yq0 ?_; refine yq73 ?_; refine yq36 ?_; refine yq81 ?_; refine T.callV Wanted.none rfl rfl (hfo) ?_; refine sa ?_
              refine so ?_; refine yq73 ?_; refine yq92 ?_; refine yq140 ?_
              exact T.retF (Lv.fin (RV.tmp rfl rfl) (by rw [hv]; unfold fb2; rw [hk5]; rfl))
            · refine zs3 ?_; (refine T.box Wanted.none rfl rfl zq15 ?_; intro b4); (refine T.box Wanted.none rfl rfl zq15 ?_; intro b6); (refine T.box Wanted.none rfl rfl zq15 ?_; intro b7); refine yq23 ?_; refine yq20 ?_; refine T.callV Wanted.none rfl rfl (hfi) ?_; refine yq146 ?_; refine sy fun b9 => ?_; refine yq98 ?_; refine yq148 ?_; refine T.callV Wanted.none rfl rfl (hat) ?_; refine yq127 ?_; refine yq107 ?_; refine gm ?_; refine yq139 ?_; refine T.setF (d := 31) rfl (by omega) ?_; refine yq114 ?_; refine yq96 ?_; refine yq160 ?_
              refine yq88 ?_; refine yq2 ?_; refine yq20 ?_; refine yq148 ?_; refine yq5 ?_; refine T.callV Wanted.none rfl rfl (hpo) ?_; refine yq127 ?_; refine yq3 ?_; refine yq22 ?_; refine yq52 ?_; refine yq162 ?_; refine T.callV Wanted.none rfl rfl (hto) ?_; refine yq0 ?_; refine yq73 ?_; refine yq36 ?_; refine yq81 ?_; refine T.callV Wanted.none rfl rfl (hfo) ?_; refine sa ?_
              refine so ?_; refine yq73 ?_; refine yq36 ?_; refine yq81 ?_; refine T.callV Wanted.none rfl rfl (hre) ?_; refine yq56 ?_; refine yq0 ?_
              exact T.retF (Lv.fin (RV.tmp rfl rfl) (by rw [hv]; unfold fb2; rw [hk5]; rfl))
      · have hll2 : ¬ ((lb.length : Nat) : Int) = (m.ls.length : Nat) := by omega
        refine zs3 ?_; (refine T.box Wanted.none rfl rfl zq15 ?_; intro b4); (refine T.box Wanted.none rfl rfl zq15 ?_; intro b6); (refine T.box Wanted.none rfl rfl zq15 ?_; intro b7); refine yq23 ?_; refine yq20 ?_; refine T.callV Wanted.none rfl rfl (hfi) ?_; refine yq146 ?_; refine sy fun b9 => ?_; refine yq98 ?_; refine yq148 ?_; refine T.callV Wanted.none rfl rfl (hat) ?_; refine yq127 ?_; refine yq107 ?_; refine gm ?_; refine yq139 ?_; refine T.setF (d := 31) rfl (by omega) ?_; refine yq114 ?_; refine yq96 ?_; refine yq160 ?_
        refine yq46 ?_; refine yq25 ?_
        exact T.retF (Lv.fin (RV.tmp rfl rfl) (by unfold valO; rw [hf]; dsimp only; rw [if_pos (.inr (.inl hll))]; rfl))
end Go.Proofs.YthacphfjchpoaaaGreatDoor
namespace Go.Proofs.YthacphfjchpoaaaGreatDoor
open Go.RowKit

set_option maxHeartbeats 1000000 in
theorem value_ref (c : Cp) (lb : List ByteArray) (vl : Value) (m : Mt) (k : Ky) (H : Hp) (hc : CpL H c) (hw : CpW c) (hlb : StL H vl lb) (hm : LabOk H m) (hl : m.ls.length ≤ 1000) :
    Fn Tryz.prog 75 #[cpV c, vl, mtV m, kyV k] H (fun u _ => u = .string (valO c lb m k)) := by
  have hfi := fits_ref c m H hc hm hl
  have hat := attribute_ref c.att c.va k.nm H hc.a hc.la
  have hatr := attI_range c.att k.nm
  have hlt := hc.lt
  have hxt := textOf_ref c m.b H hc
  obtain ⟨al, cl, hmv⟩ := hm.1.len
  have hml := hm.1
  obtain ⟨ab, cb, rfl⟩ := hlb.len
  obtain ⟨at1, ct, hvt⟩ := hc.t.len
  have ht := hc.t
  rw [hvt] at ht
  unfold cpV mtV at hfi
  unfold cpV at hxt
  unfold cpV mtV kyV
  rw [hmv, hvt] at hfi ⊢
  rw [hvt] at hxt
  rw [hmv] at hml
  refine Fn.of_T (vs := [.agg #[c.va, .slice at1 c.tk.length ct, c.vx, c.vr, c.vn, c.vh, c.vs], .slice ab lb.length cb, .agg #[.int .i64 m.b, .int .i64 m.e, .slice al m.ls.length cl], .agg #[.int .i64 k.at_, .int .i64 k.off, .string k.lb, .string k.nm, .bool k.fold, .bool k.back, .bool k.fall]]) Tryz.func75 rfl rfl fun w => ?_
  cases hf : fitO c m with
  | none =>
    rw [hf] at hfi
    change Fn _ _ _ _ (fun u _ => u = .bool false) at hfi
    refine zs3 ?_; (refine T.box Wanted.none rfl rfl zq15 ?_; intro b4); (refine T.box Wanted.none rfl rfl zq15 ?_; intro b6); (refine T.box Wanted.none rfl rfl zq15 ?_; intro b7); refine yq23 ?_; refine yq148 ?_; refine T.callV Wanted.none rfl rfl (hat) ?_; refine yq0 ?_; refine sq ?_; refine zs3 ?_; refine yq20 ?_; refine T.callV Wanted.none rfl rfl (hfi) ?_; refine yq107 ?_; refine yq149 ?_; refine yq141 ?_; refine yq8 ?_; refine yq157 ?_; refine yq25 ?_
    exact T.retF (Lv.fin (RV.tmp rfl rfl) (by unfold valO; rw [hf]; rfl))
  | some t =>
    have hfp := fitP hw hf
    have hmem := (fitO_some hw hf).1
    have hrg := hc.x.2 t hmem
    have htx : c.tx.find? (inT m.b) = some t := by
      unfold fitO at hf
      cases hfd : c.tx.find? (inT m.b) with
      | none => rw [hfd] at hf; cases hf
      | some t' =>
        rw [hfd] at hf
        dsimp only at hf
        split at hf
        · exact hf
        · cases hf
    obtain ⟨am, cm, hkv⟩ := hrg.1.len
    rw [hf] at hfi
    rw [htx, Option.getD_some] at hxt
    unfold rgV at hxt
    rw [hkv] at hxt
    change Fn _ _ _ _ (fun u _ => u = .bool true) at hfi
    change Fn _ _ _ _ (fun u _ => u = .tuple #[.agg #[.string t.ty, .int .i64 t.b, .int .i64 t.e, .slice am t.ks.length cm], .bool true]) at hxt
    by_cases hll : lb.length = m.ls.length
    · have hll2 : ((lb.length : Nat) : Int) = (m.ls.length : Nat) := by omega
      by_cases ha : attI c.att k.nm = -1
      · refine zs3 ?_; (refine T.box Wanted.none rfl rfl zq15 ?_; intro b4); (refine T.box Wanted.none rfl rfl zq15 ?_; intro b6); (refine T.box Wanted.none rfl rfl zq15 ?_; intro b7); refine yq23 ?_; refine yq148 ?_; refine T.callV Wanted.none rfl rfl (hat) ?_; refine yq0 ?_; refine sq ?_; refine zs3 ?_; refine yq20 ?_; refine T.callV Wanted.none rfl rfl (hfi) ?_; refine yq107 ?_; refine yq114 ?_; refine yq96 ?_; refine gv (PV.neq rfl rfl) ?_; refine yq90 ?_; refine T.setF (d := 33) rfl (by omega) ?_; refine gm ?_; refine gv (PV.eql rfl rfl) ?_; refine sF ?_; refine yq46 ?_; refine yq25 ?_
        exact T.retF (Lv.fin (RV.tmp rfl rfl) (by unfold valO; rw [hf]; dsimp only; rw [if_pos (.inl (by omega))]; rfl))
      · refine zs3 ?_; (refine T.box Wanted.none rfl rfl zq15 ?_; intro b4); (refine T.box Wanted.none rfl rfl zq15 ?_; intro b6); (refine T.box Wanted.none rfl rfl zq15 ?_; intro b7); refine yq23 ?_; refine yq148 ?_; refine T.callV Wanted.none rfl rfl (hat) ?_; refine yq0 ?_; refine sq ?_; refine zs3 ?_; refine yq20 ?_; refine T.callV Wanted.none rfl rfl (hfi) ?_; refine yq107 ?_; refine yq114 ?_; refine yq96 ?_; refine gv (PV.neq rfl rfl) ?_; refine yq90 ?_; refine T.setF (d := 33) rfl (by omega) ?_; refine gm ?_; refine gv (PV.eql rfl rfl) ?_; refine sF ?_; refine yq88 ?_; refine yq25 ?_; refine sq ?_; refine T.cutG [(9, Value.int IntKind.i64 (attI c.att k.nm)), (7, Value.pointer (some { block := b7, off := 0 })), (6, Value.pointer (some { block := b6, off := 0 })), (4, Value.pointer (some { block := b4, off := 0 }))] (γ := Int) (fun i => i = atP lb m k.at_ k.lb ∧ 0 ≤ i) (fun i => [(10, .int .i64 i)]) ?_ fun K => ?_
        · rintro i ⟨hi1, hi2⟩
          have hpr := atP_le (lb := lb) (a := k.at_) (s := k.lb) (n := c.tk.length) ⟨by have := hfp.t0; have := hfp.tb; omega, hfp.be, by have := hfp.et; have := hfp.tn; omega⟩ hfp.ls
          obtain ⟨f1, f2, f3, f4, f5, f6⟩ := hfp
          have hposn : posP lb m t k.at_ k.off k.lb = if i < 0 ∨ k.off < t.b - i ∨ t.e - i ≤ k.off then -1 else i + k.off := by unfold posP; rw [← hi1]
          rw [← hi1] at hpr
          by_cases g1 : k.off < t.b - i
          · rw [if_pos (by omega)] at hposn
            refine yq52 ?_; refine yq5 ?_; refine T.callV Wanted.none rfl rfl (hxt) ?_; refine yq146 ?_; refine sy fun b13 => ?_; refine yq54 ?_; refine yq73 ?_; refine yq5 ?_; refine sm ?_; refine sv (PV.sub rfl rfl (by omega)) ?_; refine yq49 ?_; refine T.setT (d := 83) rfl (by omega) ?_; refine yq149 ?_; refine sp ?_; refine yq157 ?_; refine yq25 ?_
            exact T.retF (Lv.fin (RV.tmp rfl rfl) (by unfold valO; rw [hf]; dsimp only; rw [if_pos (.inr (.inr (by omega)))]; rfl))
          · by_cases g2 : t.e - i ≤ k.off
            · rw [if_pos (by omega)] at hposn
              refine yq52 ?_; refine yq5 ?_; refine T.callV Wanted.none rfl rfl (hxt) ?_; refine yq146 ?_; refine sy fun b13 => ?_; refine yq54 ?_; refine yq73 ?_; refine yq5 ?_; refine sm ?_; refine sv (PV.sub rfl rfl (by omega)) ?_; refine yq49 ?_; refine T.setF (d := 83) rfl (by omega) ?_; refine yq161 ?_; refine yq122 ?_; refine gv (PV.geq rfl rfl) ?_; refine sF ?_; refine yq46 ?_; refine yq25 ?_
              exact T.retF (Lv.fin (RV.tmp rfl rfl) (by unfold valO; rw [hf]; dsimp only; rw [if_pos (.inr (.inr (by omega)))]; rfl))
            · rw [if_neg (by omega)] at hposn
              obtain ⟨tk, s, e1, e2, e3, e4, e5, e6⟩ := tokAt c H hc hw (i := i + k.off) (a := attI c.att k.nm) (by omega) (by omega)
              have hv : valO c lb m k = fb2 k (fb1 k s) := by unfold valO; rw [hf]; dsimp only; rw [if_neg (by omega), hposn, e3]
              have hfo := refFold_fn s H (by omega)
              have hre := refReverse_fn (fb1 k s) H (by have := fb_fold (k := k) e6; omega)
              obtain ⟨bt1, off1, x1, rfl, hix1, hsub1⟩ := RowL.get encTk_len ht (i := (i + k.off).toNat) (by omega)
              rw [e1] at hix1
              obtain rfl := Option.some.inj hix1
              obtain ⟨av, cv, hvv⟩ := e4.1.len
              have hst := e4.1
              rw [hvv] at hst
              unfold encTk at hsub1
              rw [hvv] at hsub1
              obtain ⟨bt2, off2, x2, rfl, hix2, hsub2⟩ := RowL.get encT_len hst (i := (attI c.att k.nm).toNat) (by omega)
              rw [e2] at hix2
              obtain rfl := Option.some.inj hix2
              unfold encT at hsub2
              refine yq52 ?_; refine yq5 ?_; refine T.callV Wanted.none rfl rfl (hxt) ?_; refine yq146 ?_; refine sy fun b13 => ?_; refine yq54 ?_; refine yq73 ?_; refine yq5 ?_; refine sm ?_; refine sv (PV.sub rfl rfl (by omega)) ?_; refine yq49 ?_; refine T.setF (d := 83) rfl (by omega) ?_; refine yq161 ?_; refine yq122 ?_; refine gv (PV.geq rfl rfl) ?_; refine sF ?_; refine yq88 ?_; refine yq41 ?_; refine sm ?_; refine yq5 ?_
              refine sv (PV.add rfl rfl (by omega)) ?_; refine yq15 ?_; refine sm ?_; refine yq15 ?_; refine yq0 ?_
              cases hk4 : k.fold
              · have e1 : fb1 k s = s := by unfold fb1; rw [hk4]; rfl
                rw [e1] at hv hre
                cases hk5 : k.back
                · refine yq73 ?_; refine yq92 ?_; refine yq73 ?_; refine yq92 ?_; refine yq140 ?_
                  exact T.retF (Lv.fin (RV.tmp rfl rfl) (by rw [hv]; unfold fb2; rw [hk5]; rfl))
                · refine yq73 ?_; refine yq92 ?_; refine yq73 ?_; refine yq36 ?_; refine yq81 ?_; refine T.callV Wanted.none rfl rfl (hre) ?_; refine yq56 ?_; refine yq0 ?_
                  exact T.retF (Lv.fin (RV.tmp rfl rfl) (by rw [hv]; unfold fb2; rw [hk5]; rfl))
              · have e1 : fb1 k s = ⟨(foldL s).toArray⟩ := by unfold fb1; rw [hk4]; rfl
                rw [e1] at hv hre
                cases hk5 : k.back
                · refine yq73 ?_; refine yq36 ?_; refine yq81 ?_; refine T.callV Wanted.none rfl rfl (hfo) ?_; refine yq0 ?_; refine yq73 ?_; refine yq92 ?_; refine yq140 ?_
                  exact T.retF (Lv.fin (RV.tmp rfl rfl) (by rw [hv]; unfold fb2; rw [hk5]; rfl))
                · refine yq73 ?_; refine yq36 ?_; refine yq81 ?_; refine T.callV Wanted.none rfl rfl (hfo) ?_; refine yq0 ?_; refine yq73 ?_; refine yq36 ?_; refine yq81 ?_; refine T.callV Wanted.none rfl rfl (hre) ?_; refine yq56 ?_; refine yq0 ?_
                  exact T.retF (Lv.fin (RV.tmp rfl rfl) (by rw [hv]; unfold fb2; rw [hk5]; rfl))
        · obtain ⟨f1, f2, f3, f4, f5, f6⟩ := hfp
          by_cases a1 : k.at_ = 1
          · refine yq41 ?_; refine yq32 ?_; refine yq113 ?_; refine sr ?_; refine yq5 ?_; refine yq0 ?_; refine T.blkEnd ?_
            exact K m.b _ _ ⟨by rw [a1]; rfl, by omega⟩ zq8 (by repeat (first | exact Sel.refl _ | exact Sel.nil | (refine Sel.cons zq1 ?_) | (refine Sel.app zq1 ?_) | exact Sel.one zq1))
          · by_cases a2 : k.at_ = 2
            · refine yq41 ?_; refine yq32 ?_; refine yq53 ?_; refine yq113 ?_; refine sr ?_; refine yq5 ?_; refine yq77 ?_; refine T.blkEnd ?_
              exact K (m.e - 1) _ _ ⟨by rw [a2]; rfl, by omega⟩ zq8 (by repeat (first | exact Sel.refl _ | exact Sel.nil | (refine Sel.cons zq1 ?_) | (refine Sel.app zq1 ?_) | exact Sel.one zq1))
            · by_cases a3 : k.at_ = 3
              · refine yq41 ?_; refine yq32 ?_; refine yq53 ?_; refine yq53 ?_; refine yq113 ?_; refine yq25 ?_; refine yq112 ?_; refine T.loopK [(51, Value.int IntKind.i64 (↑lb.length : Int)), (50, Value.slice ab lb.length cb), (9, Value.int IntKind.i64 (attI c.att k.nm)), (7, Value.pointer (some { block := b7, off := 0 })), (6, Value.pointer (some { block := b6, off := 0 })), (4, Value.pointer (some { block := b4, off := 0 }))] zq8 (γ := Nat) (fun i => i ≤ lb.length ∧ (lb.take i).any (fun x => decide (x = k.lb)) = false) (fun i => [(52, .int .i64 (i : Int)), (10, .int .i64 (-1))]) (fun _ => [(b7, .cells #[.int .i64 k.at_, .int .i64 k.off, .string k.lb, .string k.nm, .bool k.fold, .bool k.back, .bool k.fall] 119 (0, 0)), (b6, .cells #[.int .i64 m.b, .int .i64 m.e, .slice al m.ls.length cl] 44 (0, 0)), (b4, .cells #[c.va, .slice at1 c.tk.length ct, c.vx, c.vr, c.vn, c.vh, c.vs] 32 (0, 0))]) (fun _ => H) (fun i => lb.length - i) 0 ⟨by simp, by simp⟩ zq8 (by repeat (first | exact Sel.refl _ | exact Sel.nil | (refine Sel.cons zq1 ?_) | (refine Sel.app zq1 ?_) | exact Sel.one zq1)) rfl ?_
                rintro i ⟨hi0, hi1⟩
                by_cases hi : i < lb.length
                · obtain ⟨b, off, x, rfl, hix, hsub⟩ := RowL.get encT_len hlb hi
                  unfold encT at hsub
                  by_cases he : x = k.lb
                  · obtain ⟨y, hy⟩ : ∃ y, m.ls[i]? = some y := ⟨_, List.getElem?_eq_getElem (by omega)⟩
                    have hyr := f6 y (List.mem_of_getElem? hy)
                    have hL : lbI lb k.lb = (i : Int) := ixI_hit hi1 hix (decide_eq_true he)
                    have hA : atP lb m k.at_ k.lb = y := by rw [a3]; show lbAt lb m k.lb = y; rw [lbAt, hL, if_neg (by omega), Int.toNat_natCast, hy]; rfl
                    obtain ⟨b1, off1, rfl, hsub1⟩ := hml.intAt hy
                    by_cases g0 : y = -1
                    · refine yq87 ?_; refine yq15 ?_; refine sa ?_; refine yq56 ?_; refine yq5 ?_; refine sv (PV.seql rfl rfl) ?_; refine yq46 ?_; refine yq41 ?_; refine sm ?_; refine yq15 ?_; refine yq0 ?_; refine T.exit rfl ?_; refine yq2 ?_; refine sv (PV.eql rfl rfl) ?_; refine yq46 ?_; refine yq25 ?_
                      exact T.retF (Lv.fin (RV.tmp rfl rfl) (by unfold valO; rw [hf]; dsimp only; rw [if_pos (.inr (.inr (by unfold posP; rw [hA, if_pos (by omega)]; omega)))]; rfl))
                    · refine yq87 ?_; refine yq15 ?_; refine sa ?_; refine yq56 ?_; refine yq5 ?_; refine sv (PV.seql rfl rfl) ?_; refine yq46 ?_; refine yq41 ?_; refine sm ?_; refine yq15 ?_; refine yq0 ?_; refine T.exit rfl ?_; refine yq2 ?_; refine sv (PV.eql rfl rfl) ?_; refine yq88 ?_; refine T.blkEnd ?_
                      exact K y _ _ ⟨hA.symm, by omega⟩ zq8 (by repeat (first | exact Sel.refl _ | exact Sel.nil | (refine Sel.cons zq1 ?_) | (refine Sel.app zq1 ?_) | exact Sel.one zq1))
                  · refine yq87 ?_; refine yq15 ?_; refine sa ?_; refine yq56 ?_; refine yq5 ?_; refine sv (PV.seql rfl rfl) ?_; refine yq88 ?_; refine yq61 ?_
                    exact T.nextP (i + 1) ⟨by omega, ixI_drop hi1 hix (decide_eq_false he)⟩ (by omega) zq8 (by repeat (first | exact Sel.refl _ | exact Sel.nil | (refine Sel.cons zq1 ?_) | (refine Sel.app zq1 ?_) | exact Sel.one zq1)) rfl
                · rw [List.take_of_length_le (by omega)] at hi1
                  have hA : atP lb m k.at_ k.lb = -1 := by rw [a3]; show lbAt lb m k.lb = -1; rw [lbAt, if_pos (by rw [lbI, ixI_miss hi1]; omega)]
                  refine yq74 ?_; refine yq2 ?_; refine yq197 ?_; refine yq25 ?_
                  exact T.retF (Lv.fin (RV.tmp rfl rfl) (by unfold valO; rw [hf]; dsimp only; rw [if_pos (.inr (.inr (by unfold posP; rw [hA, if_pos (by omega)]; omega)))]; rfl))
              · have hA : atP lb m k.at_ k.lb = -1 := by unfold atP; rw [if_neg a1, if_neg a2, if_neg a3]
                refine yq41 ?_; refine yq32 ?_; refine yq53 ?_; refine yq53 ?_; refine yq53 ?_; refine yq25 ?_
                exact T.retF (Lv.fin (RV.tmp rfl rfl) (by unfold valO; rw [hf]; dsimp only; rw [if_pos (.inr (.inr (by unfold posP; rw [hA, if_pos (by omega)]; omega)))]; rfl))
    · have hll2 : ¬ ((lb.length : Nat) : Int) = (m.ls.length : Nat) := by omega
      refine zs3 ?_; (refine T.box Wanted.none rfl rfl zq15 ?_; intro b4); (refine T.box Wanted.none rfl rfl zq15 ?_; intro b6); (refine T.box Wanted.none rfl rfl zq15 ?_; intro b7); refine yq23 ?_; refine yq148 ?_; refine T.callV Wanted.none rfl rfl (hat) ?_; refine yq0 ?_; refine sq ?_; refine zs3 ?_; refine yq20 ?_; refine T.callV Wanted.none rfl rfl (hfi) ?_; refine yq107 ?_; refine yq114 ?_; refine yq96 ?_; refine gv (PV.neq rfl rfl) ?_; refine yq90 ?_; refine T.setT (d := 33) rfl (by omega) ?_; refine yq8 ?_; refine yq157 ?_; refine yq25 ?_
      exact T.retF (Lv.fin (RV.tmp rfl rfl) (by unfold valO; rw [hf]; dsimp only; rw [if_pos (.inr (.inl hll))]; rfl))
end Go.Proofs.YthacphfjchpoaaaGreatDoor
