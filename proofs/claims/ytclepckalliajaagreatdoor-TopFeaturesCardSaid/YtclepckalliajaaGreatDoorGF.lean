/- a condition on a feature: valid; which tokens hold it.
   a condition on a feature: which tokens hold it; Select. -/
import Derived.Test.YtclepckalliajaaGreatDoorGE
namespace Go.Proofs.YtclepckalliajaaGreatDoor
open Go.RowKit


/-- a feature that can be asked for -/
structure FtOk (f : ByteArray) : Prop where
  v : vvE f = 0
  ne : f ≠ ⟨#[]⟩
  bar : (124 : UInt8) ∉ f.data.toList
/-- attribute k bears the name, and none before it -/
structure AtOk (l : List (ByteArray × Bool)) (nm : ByteArray) (st : Bool) (k : Nat) : Prop where
  at_ : l[k]? = some (nm, st)
  ix : attI l nm = k
theorem atOk_of {l : List (ByteArray × Bool)} (hd : distN l l.length) {k : Nat} {nm : ByteArray} {st : Bool} (h : l[k]? = some (nm, st)) : AtOk l nm st k := by
  refine ⟨h, ?_⟩
  refine ixI_hit ?_ h (decide_eq_true rfl)
  rw [Bool.eq_false_iff]
  intro ha
  obtain ⟨x, hx, hxn⟩ := List.any_eq_true.1 ha
  obtain ⟨j, hj⟩ := List.getElem?_of_mem hx
  rw [List.getElem?_take] at hj
  split at hj
  · rename_i hjk
    exact hd k j _ _ hjk (List.getElem?_eq_some_iff.1 h).1 h hj (of_decide_eq_true hxn).symm
  · cases hj
theorem names_fn (nm f : ByteArray) (st : Bool) (k : Nat) (l : List (ByteArray × Bool)) (v : Value) (H : Hp) (hv : SlR H 2 v l.length (l.flatMap encAt)) (hl : l.length ≤ 1000) (ha : AtOk l nm st k) :
    Fn Tryz.prog 58 #[cdV nm f, v] H (fun u _ => u = .bool true) := by
  have hat := attribute_in l v nm H hv hl
  rw [ha.ix] at hat
  refine Fn.of_T (vs := [cdV nm f, v]) Tryz.func58 rfl rfl fun w => ?_; refine zs3 ?_; (refine T.box Wanted.none rfl rfl zq15 ?_; intro b2); refine sa ?_; refine so ?_; refine sq ?_; refine zs3 ?_; refine sf ?_; refine sl ?_; refine so ?_; refine T.block ?_; refine zs3 ?_; refine sv (PV.eql rfl rfl) ?_; refine sa ?_; refine so ?_; refine T.condF rfl rfl ?_; refine zs3 ?_; refine sv (PV.eql rfl rfl) ?_; refine sa ?_; refine so ?_; refine T.condT rfl rfl ?_; refine zs3 ?_; refine sm ?_; refine sf ?_; refine sl ?_; refine T.callV Wanted.none rfl rfl (hat) ?_; refine sv (PV.geq rfl rfl) ?_; refine sa ?_; refine so ?_
  exact T.retF (Lv.fin (RV.tmp rfl rfl) (by rw [decide_eq_true (by omega)]))
set_option maxHeartbeats 1000000 in
theorem check_fn (nm f : ByteArray) (st : Bool) (k : Nat) (l : List (ByteArray × Bool)) (v : Value) (H : Hp) (hv : SlR H 2 v l.length (l.flatMap encAt)) (hl : l.length ≤ 1000) (ha : AtOk l nm st k) (hf : FtOk f) :
    Fn Tryz.prog 29 #[cdV nm f, v, .slice none 0 0] H (fun u _ => u = .int .i64 (if st then 0 else 17)) := by
  have hat := attribute_in l v nm H hv hl
  rw [ha.ix] at hat
  have hsh := shape_fn nm f H
  have hnm := names_fn nm f st k l v H hv hl ha
  have hvv := vv_fn f H
  rw [hf.v] at hvv
  have hct := strContains_fn f ⟨#[124]⟩ 124 rfl H
  rw [indexByte_none hf.bar, decide_eq_false (by decide)] at hct
  obtain ⟨ad, cap, rfl⟩ := hv.len
  have hkl := (List.getElem?_eq_some_iff.1 ha.at_).1
  obtain ⟨b, off, rfl, hsub⟩ := RowL.at encAt_len hv ha.at_
  unfold encAt at hsub
  have hne : decide (f = ⟨#[]⟩) = false := decide_eq_false hf.ne
  refine Fn.of_T (vs := [cdV nm f, .slice (some ⟨b, off, none⟩) l.length cap, .slice none 0 0]) Tryz.func29 rfl rfl fun w => ?_
  cases st
  · refine zs3 ?_; (refine T.box Wanted.none rfl rfl zq15 ?_; intro b3); refine sa ?_; refine so ?_; refine sq ?_; refine zs3 ?_; refine sv (PV.loadAll rfl zq0 (by exact rfl)) ?_; refine T.callV Wanted.none rfl rfl (hsh) ?_; refine sv (PV.not rfl) ?_; refine so ?_; refine T.condF rfl rfl ?_; refine T.skip ?_; refine sq ?_; refine zs3 ?_; refine sv (PV.loadAll rfl zq0 (by exact rfl)) ?_; refine sm ?_; refine T.callV Wanted.none rfl rfl (hnm) ?_; refine sv (PV.not rfl) ?_; refine so ?_; refine T.condF rfl rfl ?_; refine T.skip ?_; refine sq ?_; refine zs3 ?_; refine sf ?_; refine sl ?_; refine so ?_; refine T.block ?_; refine zs3 ?_; refine sv (PV.eql rfl rfl) ?_; refine sa ?_; refine so ?_; refine T.condF rfl rfl ?_; refine zs3 ?_; refine sv (PV.eql rfl rfl) ?_; refine sa ?_; refine so ?_; refine T.condT rfl rfl ?_; refine sq ?_; refine zs3 ?_; refine sm ?_
    refine sm ?_; refine sf ?_; refine sl ?_; refine T.callV Wanted.none rfl rfl (hat) ?_; refine sv (PV.indexAddr rfl rfl (by omega)) ?_; refine sf ?_; refine sv (PV.loadSub rfl (by assumption) rfl) ?_; refine sv (PV.not rfl) ?_; refine so ?_; refine T.condT rfl rfl ?_; refine zs3 ?_; refine sa ?_; refine so ?_
    exact T.retF (Lv.fin (RV.tmp rfl rfl) rfl)
  · refine zs3 ?_; (refine T.box Wanted.none rfl rfl zq15 ?_; intro b3); refine sa ?_; refine so ?_; refine sq ?_; refine zs3 ?_; refine sv (PV.loadAll rfl zq0 (by exact rfl)) ?_; refine T.callV Wanted.none rfl rfl (hsh) ?_; refine sv (PV.not rfl) ?_; refine so ?_; refine T.condF rfl rfl ?_; refine T.skip ?_; refine sq ?_; refine zs3 ?_; refine sv (PV.loadAll rfl zq0 (by exact rfl)) ?_; refine sm ?_; refine T.callV Wanted.none rfl rfl (hnm) ?_; refine sv (PV.not rfl) ?_; refine so ?_; refine T.condF rfl rfl ?_; refine T.skip ?_; refine sq ?_; refine zs3 ?_; refine sf ?_; refine sl ?_; refine so ?_; refine T.block ?_; refine zs3 ?_; refine sv (PV.eql rfl rfl) ?_; refine sa ?_; refine so ?_; refine T.condF rfl rfl ?_; refine zs3 ?_; refine sv (PV.eql rfl rfl) ?_; refine sa ?_; refine so ?_; refine T.condT rfl rfl ?_; refine sq ?_; refine zs3 ?_; refine sm ?_
    refine sm ?_; refine sf ?_; refine sl ?_; refine T.callV Wanted.none rfl rfl (hat) ?_; refine sv (PV.indexAddr rfl rfl (by omega)) ?_; refine sf ?_; refine sv (PV.loadSub rfl (by assumption) rfl) ?_; refine sv (PV.not rfl) ?_; refine so ?_; refine T.condF rfl rfl ?_; refine T.skip ?_; refine zs3 ?_; refine sf ?_; refine sl ?_; refine sv (PV.seql rfl rfl) ?_; refine sm ?_; refine T.pv (PV.fieldAddr rfl) (Wanted.guard rfl rfl (by assumption)) rfl rfl ?_; refine T.pv (PV.load1 rfl zq0 rfl) (Wanted.guard rfl rfl (by assumption)) rfl rfl ?_; refine T.callV (Wanted.guard rfl rfl (by assumption)) rfl rfl (hct) ?_; refine sv (PV.pickF rfl (by assumption) rfl) ?_; refine sm ?_; refine gf ?_; refine gl ?_; refine T.callV (Wanted.guard rfl rfl rfl) rfl rfl (hvv) ?_; refine gv (PV.neq rfl rfl) ?_; refine sF ?_; refine so ?_; refine T.condF rfl rfl ?_; refine T.skip ?_; refine T.blkEnd ?_; refine zs3 ?_; refine sa ?_; refine so ?_
    exact T.retF (Lv.fin (RV.tmp rfl rfl) rfl)
theorem val1_fn (nm f : ByteArray) (st : Bool) (k : Nat) (l : List (ByteArray × Bool)) (v : Value) (b1 b2 : Nat) (H : Hp) (hv : SlR H 2 v l.length (l.flatMap encAt)) (hl : l.length ≤ 1000) (ha : AtOk l nm st k) (hf : FtOk f)
    (h1 : H b1 = some (.cells #[v] 22 (0, 0))) (h2 : H b2 = some (.cells #[.slice none 0 0] 28 (0, 0))) :
    Fn Tryz.prog 28 #[cdV nm f, .pointer (some ⟨b1, 0, none⟩), .pointer (some ⟨b2, 0, none⟩)] H (fun u _ => u = .int .i64 (if st then 0 else 17)) := by
  have hck := check_fn nm f st k l v H hv hl ha hf
  refine Fn.of_T (vs := [cdV nm f, .pointer (some ⟨b1, 0, none⟩), .pointer (some ⟨b2, 0, none⟩)]) Tryz.func28 rfl rfl fun w => ?_; refine zs3 ?_; (refine T.box Wanted.none rfl rfl zq15 ?_; intro b3); refine sa ?_; refine zs1 ?_; refine sv (PV.loadAll rfl zq0 (by exact rfl)) ?_; refine sl ?_; refine sl ?_; refine T.callV Wanted.none rfl rfl (hck) ?_; refine sa ?_; refine so ?_
  exact T.retF (Lv.fin (RV.tmp rfl rfl) rfl)
theorem walk_fn (nm f : ByteArray) (n : Int) (gf : FuncId) [hE : Ent Tryz.prog gf] (cap : List Value) (H : Hp) (hg : Fn Tryz.prog gf (cdV nm f :: cap).toArray H (fun u _ => u = .int .i64 n)) :
    Fn Tryz.prog 27 #[cdV nm f, .func (.func gf) #[] cap.toArray] H (fun u _ => u = .int .i64 n) := by
  refine Fn.of_T (vs := [cdV nm f, .func (.func gf) #[] cap.toArray]) Tryz.func27 rfl rfl fun w => ?_; refine zs3 ?_; (refine T.box Wanted.none rfl rfl zq15 ?_; intro b2); refine sa ?_; refine so ?_; refine sq ?_; refine zs3 ?_; refine sm ?_; refine sv (PV.loadAll rfl zq0 (by exact rfl)) ?_; refine T.callF (cap := cap) Wanted.none rfl rfl rfl (by exact hg) ?_
  rintro _ H' hle rfl
  refine T.forget hle ?_ (Hp.le.refl _)
  by_cases h0 : n ≠ 0
  · refine sa ?_; refine zs1 ?_; refine sm ?_; refine sv (PV.neq rfl rfl) ?_; refine so ?_; refine sc rfl (by omega) ?_; refine zs3 ?_; refine sm ?_; refine sa ?_; refine so ?_
    exact T.retF (Lv.fin (RV.tmp rfl rfl) rfl)
  · refine sa ?_; refine zs1 ?_; refine sm ?_; refine sv (PV.neq rfl rfl) ?_; refine so ?_; refine sd rfl (by omega) ?_; refine T.skip ?_; refine sq ?_; refine zs3 ?_; refine sf ?_; refine sl ?_; refine sv (PV.lenSl rfl) ?_; refine sm ?_; refine so ?_; refine T.block ?_; refine T.loopR [(17, Value.int IntKind.i64 (↑0 : Int)), (16, Value.slice none 0 0), (1, Value.func (Fn.func gf) #[] cap.toArray)] zq8 18 0 rfl ?_
    intro i hi
    obtain rfl : i = 0 := by omega
    refine zs3 ?_; refine sv (PV.lss rfl rfl) ?_; refine so ?_; refine sq ?_; refine T.condF rfl rfl ?_; refine T.exit rfl ?_; refine zs3 ?_; refine sa ?_; refine so ?_
    exact T.retF (Lv.fin (RV.tmp rfl rfl) (by rw [show n = 0 by omega]))
theorem validateC_fn (nm f : ByteArray) (st : Bool) (k : Nat) (l : List (ByteArray × Bool)) (v : Value) (H : Hp) (hv : SlR H 2 v l.length (l.flatMap encAt)) (hl : l.length ≤ 1000) (ha : AtOk l nm st k) (hf : FtOk f) :
    Fn Tryz.prog 15 #[cdV nm f, v, .slice none 0 0] H (fun u _ => u = .int .i64 (if st then 0 else 17)) := by
  obtain ⟨ad, cap, rfl⟩ := hv.len
  refine Fn.of_T (vs := [cdV nm f, .slice ad l.length cap, .slice none 0 0]) Tryz.func15 rfl rfl fun w => ?_; refine zs3 ?_; (refine T.box Wanted.none rfl rfl zq15 ?_; intro b3); (refine T.box Wanted.none rfl rfl zq15 ?_; intro b4); (refine T.box Wanted.none rfl rfl zq15 ?_; intro b5); refine sa ?_; refine so ?_; refine T.freezeB (b := b4) zq1 ?_
  intro H1 hle1 hb4
  refine T.freezeB (b := b5) zq1 ?_
  intro H2 hle2 hb5
  have hm := measure_fn nm f H2
  have hw := walk_fn nm f (if st then 0 else 17) 28 [.pointer (some ⟨b4, 0, none⟩), .pointer (some ⟨b5, 0, none⟩)] H2 (val1_fn nm f st k l _ b4 b5 H2 (hv.mono (hle1.trans hle2)) hl ha hf (hle2 _ _ hb4) hb5)
  refine sq ?_; refine zs3 ?_; refine sv (PV.loadAll rfl zq0 (by exact rfl)) ?_; (refine T.callX Wanted.none rfl rfl hm ?_; rintro _ rfl); refine sm ?_; refine sv (PV.extract rfl rfl) ?_; refine sv (PV.extract rfl rfl) ?_; refine sa ?_; refine sa ?_; refine zs1 ?_; refine sm ?_; refine sv (PV.gtr rfl rfl) ?_; refine sm ?_; refine gm ?_; refine gv (PV.gtr rfl rfl) ?_; refine sF ?_; refine so ?_; refine T.condF rfl rfl ?_; refine T.skip ?_; refine zs3 ?_; refine sv (PV.loadAll rfl zq0 (by exact rfl)) ?_; refine sv (PV.makeFunc rfl) ?_; (refine T.callX Wanted.none rfl rfl hw ?_; rintro _ rfl); refine sa ?_; refine so ?_
  exact T.retF (Lv.fin (RV.tmp rfl rfl) rfl)

end Go.Proofs.YtclepckalliajaaGreatDoor
namespace Go.Proofs.YtclepckalliajaaGreatDoor
open Go.RowKit


theorem valueC_fn (c : Cp) (i a : Nat) (t : Tk) (s : ByteArray) (H : Hp) (hc : CpA H c) (hti : c.tk[i]? = some t) (hsa : t.ss[a]? = some s) :
    Fn Tryz.prog 32 #[cpV c, .int .i64 (i : Int), .int .i64 (a : Int)] H (fun u _ => u = .string s) := by
  have hto := hc.tO t (List.mem_of_getElem? hti)
  have hil := (List.getElem?_eq_some_iff.1 hti).1
  have hal := (List.getElem?_eq_some_iff.1 hsa).1
  obtain ⟨aa, ca, at1, ct, ax, cx, ar, cr, an, cn, ah, ch, as1, cs, hcv, ha, ht, hx, hr, hn, hh, hs⟩ := hc.open; rw [hcv]; have hla := hc.la; have hlt := hc.lt; have hlx := hc.lx; have hlr := hc.lr; have hln := hc.ln; have hlh := hc.lh; have hls := hc.ls
  refine Fn.of_T (vs := [.agg #[.slice aa c.att.length ca, .slice at1 c.tk.length ct, .slice ax c.tx.length cx, .slice ar c.rg.length cr, .slice an c.nd.length cn, .slice ah c.hd.length ch, .slice as1 c.rl.length cs], .int .i64 (i : Int), .int .i64 (a : Int)]) Tryz.func32 rfl rfl fun w => ?_
  obtain ⟨b, off, x, rfl, hix, hsub⟩ := RowL.get encTk_len ht (i := i) (by omega)
  rw [hti] at hix
  obtain rfl := Option.some.inj hix
  obtain ⟨av, cv, hvv⟩ := hto.1.len
  have hst := hto.1
  rw [hvv] at hst
  unfold encTk at hsub
  rw [hvv] at hsub
  obtain ⟨b2, off2, x2, rfl, hix2, hsub2⟩ := RowL.get encT_len hst (i := a) (by omega)
  rw [hsa] at hix2
  obtain rfl := Option.some.inj hix2
  unfold encT at hsub2
  have g1 : ¬ (i : Int) < 0 := by omega
  have g2 : ¬ (c.tk.length : Int) ≤ (i : Int) := by omega
  have g3 : ¬ (a : Int) < 0 := by omega
  have g4 : ¬ (t.ss.length : Int) ≤ (a : Int) := by omega
  refine zs3 ?_; (refine T.box Wanted.none rfl rfl zq15 ?_; intro b3); refine sa ?_; refine so ?_; refine sq ?_; refine zs3 ?_; refine sm ?_; refine sv (PV.lss rfl rfl) ?_; refine sm ?_; refine gm ?_; refine gf ?_; refine gl ?_; refine gv (PV.lenSl rfl) ?_; refine gv (PV.geq rfl rfl) ?_; refine sF ?_; refine sm ?_; refine T.setF (d := 16) rfl (by omega) ?_; refine gm ?_; refine gv (PV.lss rfl rfl) ?_; refine sF ?_; refine sm ?_; refine gm ?_; refine gf ?_; refine gl ?_; refine gm ?_; refine gv (PV.indexAddr rfl rfl (by omega)) ?_; refine gv (PV.loadSub0 rfl (by assumption)) ?_; refine gv (PV.lenSl rfl) ?_; refine gv (PV.geq rfl rfl) ?_; refine sF ?_; refine so ?_; refine sd rfl (by omega) ?_; refine T.skip ?_; refine zs3 ?_; refine sf ?_; refine sl ?_; refine sm ?_; refine sv (PV.indexAddr rfl rfl (by omega)) ?_; refine sv (PV.loadSub0 rfl (by assumption)) ?_; refine sm ?_
  refine sv (PV.indexAddr rfl rfl (by omega)) ?_; refine sv (PV.loadSub0 rfl (by assumption)) ?_; refine sa ?_; refine so ?_
  exact T.retF (Lv.fin (RV.tmp rfl rfl) rfl)
theorem holds_fn (c : Cp) (i a : Nat) (t : Tk) (s nm f : ByteArray) (st : Bool) (H : Hp) (hc : CpA H c) (hti : c.tk[i]? = some t) (hsa : t.ss[a]? = some s) (ha : AtOk c.att nm st a) :
    Fn Tryz.prog 16 #[cpV c, cdV nm f, .int .i64 (i : Int), .slice none 0 0, .slice none 0 0] H (fun u _ => u = .bool (hasB s f)) := by
  have hat := attribute_in c.att c.va nm H hc.a hc.la
  rw [ha.ix] at hat
  have hva := valueC_fn c i a t s H hc hti hsa
  have hha := has_fn s f H
  unfold cpV at hva ⊢
  obtain ⟨va, att, vt, tk, vx, tx, vr, rg, vn, nd, vh, hd, vs, rl⟩ := c
  dsimp only at hat hva ⊢
  refine Fn.of_T (vs := [.agg #[va, vt, vx, vr, vn, vh, vs], cdV nm f, .int .i64 (i : Int), .slice none 0 0, .slice none 0 0]) Tryz.func16 rfl rfl fun w => ?_; refine zs3 ?_; (refine T.box Wanted.none rfl rfl zq15 ?_; intro b5); (refine T.box Wanted.none rfl rfl zq15 ?_; intro b6); (refine T.box Wanted.none rfl rfl zq15 ?_; intro b7); (refine T.box Wanted.none rfl rfl zq15 ?_; intro b8); (refine T.box Wanted.none rfl rfl zq15 ?_; intro b9); refine sa ?_; refine zs1 ?_; refine sv (PV.makeFunc rfl) ?_; refine sy fun b11 => ?_; refine T.store1 Wanted.none rfl rfl rfl zq14 zq13 ?_; refine so ?_; refine sq ?_; refine zs3 ?_; refine sf ?_; refine sl ?_; refine so ?_; refine T.block ?_; refine zs3 ?_; refine sv (PV.eql rfl rfl) ?_; refine sa ?_; refine so ?_; refine T.condF rfl rfl ?_; refine zs3 ?_; refine sv (PV.eql rfl rfl) ?_; refine sa ?_; refine so ?_; refine T.condF rfl rfl ?_; refine zs3 ?_; refine sv (PV.eql rfl rfl) ?_; refine sa ?_; refine so ?_; refine T.condT rfl rfl ?_; refine sq ?_; refine T.regionQ (by kernel_rfl) ?_; refine TQ.pv (PV.loadAll rfl zq0 (by exact rfl)) Wanted.none rfl rfl ?_; refine TQ.pv (PV.load1 rfl zq0 rfl) Wanted.none rfl rfl ?_; refine TQ.pv (PV.fieldAddr rfl) Wanted.none rfl rfl ?_; refine TQ.pv (PV.load1 rfl zq0 rfl) Wanted.none rfl rfl ?_
  refine TQ.pv (PV.fieldAddr rfl) Wanted.none rfl rfl ?_; refine TQ.pv (PV.load1 rfl zq0 rfl) Wanted.none rfl rfl ?_; refine TQ.callV Wanted.none rfl rfl (hat) ?_; refine TQ.callV Wanted.none rfl rfl (hva) ?_; refine TQ.pv (PV.fieldAddr rfl) Wanted.none rfl rfl ?_; refine TQ.pv (PV.load1 rfl zq0 rfl) Wanted.none rfl rfl ?_; refine TQ.callV Wanted.none rfl rfl (hha) ?_; refine TQ.pv (PV.assign rfl) Wanted.none rfl rfl ?_; refine TQ.nil ?_
  exact T.retF (Lv.fin (RV.tmp rfl rfl) rfl)
/-- the places at which g holds -/
def selG (g : Nat → Bool) (n : Nat) : List Int := ((List.range n).filter g).map fun i : Nat => (i : Int)
theorem selG_succ (g : Nat → Bool) (n : Nat) : selG g (n + 1) = selG g n ++ if g n then [(n : Int)] else [] := by
  unfold selG
  rw [List.range_succ, List.filter_append, List.map_append]
  congr 1
  cases h : g n <;> simp [h]
theorem selG_len (g : Nat → Bool) (n : Nat) : (selG g n).length ≤ n := by
  unfold selG
  rw [List.length_map]
  exact Nat.le_trans (List.length_filter_le _ _) (by simp)
/-- the value of attribute a of token i -/
def valT (c : Cp) (a i : Nat) : ByteArray := ((c.tk[i]?).bind fun t => t.ss[a]?).getD ⟨#[]⟩
theorem valT_at {c : Cp} (hg : cpGood c) {a i : Nat} (hi : i < c.tk.length) (ha : a < c.att.length) : ∃ t, c.tk[i]? = some t ∧ t.ss[a]? = some (valT c a i) := by
  have h1 : c.tk[i]? = some c.tk[i] := List.getElem?_eq_getElem hi
  have h2 := hg.2 c.tk[i] (List.getElem_mem hi)
  have h3 : c.tk[i].ss[a]? = some (c.tk[i].ss[a]'(by omega)) := List.getElem?_eq_getElem (by omega)
  refine ⟨_, h1, ?_⟩
  rw [h3]
  unfold valT
  rw [h1]
  show some _ = some ((c.tk[i].ss[a]?).getD _)
  rw [h3]; rfl
noncomputable def hasG (c : Cp) (f : ByteArray) (a i : Nat) : Bool := hasB (valT c a i) f
structure SelS where
  i : Nat
  v : Value
  lv : List (Nat × Obj)
set_option maxHeartbeats 1000000 in
theorem select_fn (c : Cp) (a : Nat) (nm f : ByteArray) (st : Bool) (H : Hp) (hc : CpA H c) (hg : cpGood c) (ha : AtOk c.att nm st a) (hf : FtOk f) :
    Fn Tryz.prog 6 #[cpV c, cdV nm f] H (fun u H' => ∃ v n l, u = .tuple #[v, .int .i64 n] ∧ InL H' v l ∧ n = (if st then 0 else 17) ∧ (st = true → l = selG (hasG c f a) c.tk.length)) := by
  have hal := (List.getElem?_eq_some_iff.1 ha.at_).1
  have hla := large_fn nm f H
  have hlo := loose_fn nm f H
  have hvd := validateC_fn nm f st a c.att c.va H hc.a hc.la ha hf
  have hho : ∀ i, i < c.tk.length → Fn Tryz.prog 16 #[cpV c, cdV nm f, .int .i64 (i : Int), .slice none 0 0, .slice none 0 0] H (fun u _ => u = .bool (hasG c f a i)) := fun i hi => by
    obtain ⟨t, h1, h2⟩ := valT_at hg hi hal
    exact holds_fn c i a t (valT c a i) nm f st H hc h1 h2 ha
  have htk := hc.t
  have hlt := hc.lt
  obtain ⟨at1, ct, hvt⟩ := htk.len
  unfold cpV at hho ⊢
  obtain ⟨va, att, vt, tk, vx, tx, vr, rg, vn, nd, vh, hd, vs, rl⟩ := c
  dsimp only at hal hvd hho htk hvt hlt ⊢
  subst hvt
  refine Fn.of_T (vs := [.agg #[va, .slice at1 tk.length ct, vx, vr, vn, vh, vs], cdV nm f]) Tryz.func6 rfl rfl fun w => ?_
  cases st
  · refine zs3 ?_; (refine T.box Wanted.none rfl rfl zq15 ?_; intro b2); (refine T.box Wanted.none rfl rfl zq15 ?_; intro b3); refine sa ?_; refine sa ?_; refine so ?_; refine sq ?_; refine zs3 ?_; refine sv (PV.loadAll rfl zq0 (by exact rfl)) ?_; refine T.callV Wanted.none rfl rfl (hla) ?_; refine so ?_; refine T.condF rfl rfl ?_; refine T.skip ?_; refine zs3 ?_; refine sv (PV.loadAll rfl zq0 (by exact rfl)) ?_; refine T.callV Wanted.none rfl rfl (hlo) ?_; refine T.storeA Wanted.none rfl rfl zq8 (by exact rfl) zq14 zq13 ?_; refine so ?_; refine sq ?_; refine zs3 ?_; refine sv (PV.loadAll rfl zq0 (by exact rfl)) ?_; refine sf ?_; refine sl ?_; refine T.callV Wanted.none rfl rfl (hvd) ?_; refine sa ?_; refine zs1 ?_; refine sm ?_; refine sv (PV.neq rfl rfl) ?_; refine so ?_; refine T.condT rfl rfl ?_; refine zs3 ?_; refine sm ?_; refine sa ?_; refine sa ?_; refine so ?_
    exact T.retF (Lv.fin (RV.tmp2 rfl rfl rfl) ⟨_, _, [], rfl, SlR.empty, rfl, fun h => by cases h⟩)
  refine zs3 ?_; (refine T.box Wanted.none rfl rfl zq15 ?_; intro b2); (refine T.box Wanted.none rfl rfl zq15 ?_; intro b3); refine sa ?_; refine sa ?_; refine so ?_; refine sq ?_; refine zs3 ?_; refine sv (PV.loadAll rfl zq0 (by exact rfl)) ?_; refine T.callV Wanted.none rfl rfl (hla) ?_; refine so ?_; refine T.condF rfl rfl ?_; refine T.skip ?_; refine zs3 ?_; refine sv (PV.loadAll rfl zq0 (by exact rfl)) ?_; refine T.callV Wanted.none rfl rfl (hlo) ?_; refine T.storeA Wanted.none rfl rfl zq8 (by exact rfl) zq14 zq13 ?_; refine so ?_; refine sq ?_; refine zs3 ?_; refine sv (PV.loadAll rfl zq0 (by exact rfl)) ?_; refine sf ?_; refine sl ?_; refine T.callV Wanted.none rfl rfl (hvd) ?_; refine sa ?_; refine zs1 ?_; refine sm ?_; refine sv (PV.neq rfl rfl) ?_; refine so ?_; refine T.condF rfl rfl ?_; refine T.skip ?_; refine zs3 ?_; refine sa ?_; refine so ?_; refine sq ?_; refine zs3 ?_; refine sf ?_; refine sl ?_; refine sv (PV.lenSl rfl) ?_; refine sm ?_
  refine so ?_; refine T.block ?_
  generalize hgg : hasG ⟨va, att, .slice at1 tk.length ct, tk, vx, tx, vr, rg, vn, nd, vh, hd, vs, rl⟩ f a = g at hho ⊢
  refine T.loopK [(22, Value.int IntKind.i64 (↑tk.length : Int)), (3, Value.pointer (some { block := b3, off := 0 })), (2, Value.pointer (some { block := b2, off := 0 }))] zq8 (γ := SelS) (fun s => s.i ≤ tk.length ∧ RowV 3 encI 1 s.v s.lv (selG g s.i)) (fun s => [(23, .int .i64 (s.i : Int)), (7, s.v)]) (fun s => s.lv ++ _) (fun _ => H) (fun s => tk.length - s.i) ⟨0, .slice none 0 0, []⟩ ⟨Nat.zero_le _, Vec.nil _ _⟩ zq8 (by repeat (first | exact Sel.refl _ | exact Sel.nil | (refine Sel.cons zq1 ?_) | (refine Sel.app zq1 ?_) | exact Sel.one zq1)) rfl ?_
  rintro ⟨i, v, lv⟩ ⟨g1, g2⟩
  dsimp only at g1 g2 ⊢
  obtain ⟨ad, cap, rfl⟩ := g2.val
  have hsl := selG_len g i
  by_cases hi : i < tk.length
  · have hh := hho i hi
    have hsu := selG_succ g i
    cases hgi : g i
    · rw [hgi] at hh hsu
      refine zs3 ?_; refine sv (PV.lss rfl rfl) ?_; refine so ?_; refine sq ?_; refine sc rfl (by omega) ?_; refine T.skip ?_; refine sq ?_; refine T.block ?_; refine zs3 ?_; refine sm ?_; refine sa ?_; refine zs1 ?_; refine sv (PV.loadAll rfl zq0 (by exact rfl)) ?_; refine sv (PV.loadAll rfl zq0 (by exact rfl)) ?_; refine sm ?_; refine T.callV Wanted.none rfl rfl (hh) ?_; refine so ?_; refine T.condF rfl rfl ?_; refine T.skip ?_; refine T.blkEnd ?_; refine sr ?_; refine sv (PV.add rfl rfl (by omega)) ?_; refine sm ?_; refine so ?_
      exact T.nextP ⟨i + 1, _, lv⟩ ⟨by dsimp only; omega, by rw [hsu]; simpa using g2⟩ (by dsimp only; omega) zq8 (by repeat (first | exact Sel.refl _ | exact Sel.nil | (refine Sel.cons zq1 ?_) | (refine Sel.app zq1 ?_) | exact Sel.one zq1)) rfl
    · rw [hgi] at hh hsu
      refine zs3 ?_; refine sv (PV.lss rfl rfl) ?_; refine so ?_; refine sq ?_; refine sc rfl (by omega) ?_; refine T.skip ?_; refine sq ?_; refine T.block ?_; refine zs3 ?_; refine sm ?_; refine sa ?_; refine zs1 ?_; refine sv (PV.loadAll rfl zq0 (by exact rfl)) ?_; refine sv (PV.loadAll rfl zq0 (by exact rfl)) ?_; refine sm ?_; refine T.callV Wanted.none rfl rfl (hh) ?_; refine so ?_; refine T.condT rfl rfl ?_; refine sr ?_; refine sm ?_; refine sm ?_; (refine T.buildSlice Wanted.none rfl rfl zq11 (by exact rfl) (by exact rfl) ?_; intro b32); (refine T.appendP (lv := lv) Wanted.none rfl rfl rfl g2 (Src.cells (m := 1) (ys := encI _) (.own zq2) rfl rfl) (one_encI _) (by omega) zq1 ?_; intro v33 lv33 hv33 _); refine sa ?_; refine so ?_; refine T.blkEnd ?_; refine sr ?_; refine sv (PV.add rfl rfl (by omega)) ?_; refine sm ?_; refine so ?_
      exact T.nextP ⟨i + 1, _, lv33⟩ ⟨by dsimp only; omega, by rw [hsu]; exact RowV.snoc hv33⟩ (by dsimp only; omega) zq8 (by repeat (first | exact Sel.refl _ | exact Sel.nil | (refine Sel.cons zq1 ?_) | (refine Sel.app zq1 ?_) | exact Sel.one zq1)) rfl
  · obtain rfl : i = tk.length := by omega
    refine zs3 ?_; refine sv (PV.lss rfl rfl) ?_; refine so ?_; refine sq ?_; refine sd rfl (by omega) ?_; refine T.exit rfl ?_; refine zs3 ?_; refine sm ?_; refine sa ?_; refine sa ?_; refine so ?_; refine T.freezeP (lv := lv) g2 zq1 ?_
    intro Ha hla2 hsa
    exact T.retF (Lv.fin (RV.tmp2 rfl rfl rfl) ⟨_, _, _, rfl, hsa, rfl, fun _ => rfl⟩)

end Go.Proofs.YtclepckalliajaaGreatDoor
