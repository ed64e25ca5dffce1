/- a condition on a value: measured, loosened, well formed, valid.
   a condition on a value: which tokens hold it; Select.
   the statement Fold, plain: a text quoted; tokens folded. -/
import Derived.Test.YtpjdhokpfccahaaGreatDoorGX
namespace Go.Proofs.YtpjdhokpfccahaaGreatDoor
open Go.RowKit

abbrev cvV (nm f : ByteArray) (fd : Bool) : Value := .agg #[.int .i64 2, .string nm, .string ⟨#[]⟩, .string f, .string ⟨#[]⟩, .bool fd, .slice none 0 0]
theorem measureV_fn (nm f : ByteArray) (fd : Bool) (H : Hp) : Fn Tryz.prog 38 #[cvV nm f fd, .int .i64 0, .int .i64 1] H (fun u _ => u = .tuple #[.int .i64 1, .int .i64 1]) := by
  refine Fn.of_T (vs := [cvV nm f fd, .int .i64 0, .int .i64 1]) Tryz.func38 rfl rfl fun w => ?_; refine zs3 ?_; (refine T.box Wanted.none rfl rfl zq15 ?_; intro b3); refine sa ?_; refine sa ?_; refine zs1 ?_; refine sm ?_; refine sv (PV.add rfl rfl (by omega)) ?_; refine sa ?_; refine zs1 ?_; refine sm ?_; refine sa ?_; refine so ?_; refine sq ?_; refine zs3 ?_; refine sf ?_; refine sl ?_; refine sv (PV.lenSl rfl) ?_; refine sm ?_; refine so ?_; refine T.block ?_; refine T.loopK [(18, Value.int IntKind.i64 (↑0 : Int)), (17, Value.slice none 0 0), (2, Value.int IntKind.i64 1)] zq8 (γ := Unit) (fun _ => True) (fun _ => [(19, .int .i64 0), (1, .int .i64 1), (8, .int .i64 1)]) (fun _ => _) (fun _ => H) (fun _ => 0) () trivial zq8 (Sel.refl _) rfl ?_
  rintro _ _
  refine zs3 ?_; refine sv (PV.lss rfl rfl) ?_; refine so ?_; refine sq ?_; refine T.condF rfl rfl ?_; refine T.exit rfl ?_; refine zs3 ?_; refine sm ?_; refine sm ?_; refine sa ?_; refine sa ?_; refine so ?_
  exact T.retF (Lv.fin (RV.tmp2 rfl rfl rfl) rfl)
theorem largeV_fn (nm f : ByteArray) (fd : Bool) (H : Hp) : Fn Tryz.prog 22 #[cvV nm f fd] H (fun u _ => u = .bool false) := by
  have hm := measureV_fn nm f fd H
  refine Fn.of_T (vs := [cvV nm f fd]) Tryz.func22 rfl rfl fun w => ?_; refine zs3 ?_; (refine T.box Wanted.none rfl rfl zq15 ?_; intro b1); refine sa ?_; refine zs1 ?_; refine sv (PV.loadAll rfl zq0 (by exact rfl)) ?_; (refine T.callX Wanted.none rfl rfl hm ?_; rintro _ rfl); refine sm ?_; refine sv (PV.extract rfl rfl) ?_; refine sv (PV.extract rfl rfl) ?_; refine sa ?_; refine sa ?_; refine zs1 ?_; refine sm ?_; refine sv (PV.gtr rfl rfl) ?_; refine sa ?_; refine so ?_
  exact T.retF (Lv.fin (RV.tmp rfl rfl) rfl)
theorem looseV_fn (nm f : ByteArray) (fd : Bool) (H : Hp) : Fn Tryz.prog 23 #[cvV nm f fd] H (fun u _ => u = cvV nm f fd) := by
  refine Fn.of_T (vs := [cvV nm f fd]) Tryz.func23 rfl rfl fun w => ?_; refine zs3 ?_; (refine T.box Wanted.none rfl rfl zq15 ?_; intro b1); refine sy fun b2 => ?_; refine so ?_; refine sq ?_; refine zs3 ?_; refine sf ?_; refine sl ?_; refine sv (PV.eql rfl rfl) ?_; refine sm ?_; refine gf ?_; refine gl ?_; refine gv (PV.eql rfl rfl) ?_; refine gm ?_; refine sp ?_; refine sp ?_; refine gv (PV.pickF rfl rfl rfl) ?_; refine sF ?_; refine so ?_; refine T.condF rfl rfl ?_; refine T.skip ?_; refine zs3 ?_; refine sv (PV.loadAll rfl zq0 (by exact rfl)) ?_; refine sy fun b3 => ?_; refine T.storeA Wanted.none rfl rfl zq8 (by exact rfl) zq14 zq13 ?_; refine zs1 ?_; refine sf ?_; refine T.store1 Wanted.none rfl rfl rfl zq14 zq13 ?_; refine so ?_; refine sq ?_; refine zs3 ?_; refine sf ?_; refine sl ?_; refine sv (PV.lenSl rfl) ?_; refine sm ?_; refine so ?_; refine T.block ?_; refine T.loopR [(23, Value.int IntKind.i64 (↑0 : Int)), (22, Value.slice none 0 0), (3, Value.pointer (some { block := b3, off := 0 })), (2, Value.pointer (some { block := b2, off := 0 }))] zq8 24 0 rfl ?_
  intro i hi
  obtain rfl : i = 0 := by omega
  refine zs3 ?_; refine sv (PV.lss rfl rfl) ?_; refine so ?_; refine sq ?_; refine T.condF rfl rfl ?_; refine T.exit rfl ?_; refine zs3 ?_; refine sv (PV.loadAll rfl zq0 (by exact rfl)) ?_; refine T.storeA Wanted.none rfl rfl zq8 (by exact rfl) zq14 zq13 ?_; refine so ?_
  exact T.retF (Lv.fin (RV.cell rfl (by exact CV.agg rfl zq0 (by exact rfl))) rfl)
theorem shapeV_fn (nm f : ByteArray) (fd : Bool) (H : Hp) : Fn Tryz.prog 73 #[cvV nm f fd] H (fun u _ => u = .bool true) := by
  have hnn : decide (nm = nm) = true := decide_eq_true rfl
  have hff : decide (f = f) = true := decide_eq_true rfl
  have hdd : decide (fd = fd) = true := decide_eq_true rfl
  refine Fn.of_T (vs := [cvV nm f fd]) Tryz.func73 rfl rfl fun w => ?_; refine zs3 ?_; (refine T.box Wanted.none rfl rfl zq15 ?_; intro b1); refine sa ?_; refine zs1 ?_; refine sa ?_; refine sa ?_; refine zs1 ?_; refine sf ?_; refine sl ?_; refine sv (PV.build rfl zq12) ?_; refine sy fun b5 => ?_; refine T.storeA Wanted.none rfl rfl zq8 (by exact rfl) zq14 zq13 ?_; refine so ?_; refine sq ?_; refine zs3 ?_; refine sf ?_; refine sl ?_; refine so ?_; refine T.block ?_; refine sq ?_; refine T.block ?_; refine sq ?_; refine T.block ?_; refine sq ?_; refine T.block ?_; refine sq ?_; refine T.block ?_; refine sq ?_; refine T.block ?_; refine sq ?_; refine T.block ?_; refine sq ?_; refine T.block ?_; refine sq ?_; refine T.block ?_; refine sq ?_; refine sq ?_; refine zs3 ?_; refine sv (PV.eql rfl rfl) ?_
  refine sa ?_; refine so ?_; refine T.condF rfl rfl ?_; refine T.skip ?_; refine sq ?_; refine zs3 ?_; refine sv (PV.eql rfl rfl) ?_; refine sa ?_; refine so ?_; refine T.condT rfl rfl ?_; refine T.exit rfl ?_; refine sr ?_; refine sf ?_; refine sl ?_; refine sf ?_; refine T.store1 Wanted.none rfl rfl rfl zq14 zq13 ?_; refine so ?_; refine T.blkEnd ?_; refine sq ?_; refine T.regionA [(b1, .cells #[.int .i64 2, .string nm, .string ⟨#[]⟩, .string f, .string ⟨#[]⟩, .bool fd, .slice none 0 0] 49 (0, 0))] (by kernel_rfl) zq4 ?_; (refine TA.pv (PV.fieldAddr rfl) Wanted.none rfl rfl ?_; refine TA.nrm (by simp only [List.nil_append, List.cons_append]; exact rfl) ?_); (refine TA.pv (PV.load1 rfl zq0 rfl) Wanted.none rfl rfl ?_; refine TA.nrm (by simp only [List.nil_append, List.cons_append]; exact rfl) ?_); (refine TA.pv (PV.fieldAddr rfl) Wanted.none rfl rfl ?_; refine TA.nrm (by simp only [List.nil_append, List.cons_append]; exact rfl) ?_); (refine TA.pv (PV.load1 rfl zq0 rfl) Wanted.none rfl rfl ?_; refine TA.nrm (by simp only [List.nil_append, List.cons_append]; exact rfl) ?_); (refine TA.pv (PV.fieldAddr rfl) Wanted.none rfl rfl ?_; refine TA.nrm (by simp only [List.nil_append, List.cons_append]; exact rfl) ?_); (refine TA.ps (PS.store1 rfl rfl rfl zq14 zq13) Wanted.none rfl zq4 ?_; refine TA.nrm (by simp only [List.nil_append, List.cons_append]; exact rfl) ?_); (refine TA.pv (PV.fieldAddr rfl) Wanted.none rfl rfl ?_; refine TA.nrm (by simp only [List.nil_append, List.cons_append]; exact rfl) ?_); (refine TA.ps (PS.store1 rfl rfl rfl zq14 zq13) Wanted.none rfl zq4 ?_; refine TA.nrm (by simp only [List.nil_append, List.cons_append]; exact rfl) ?_); refine TA.nil ?_; refine T.exit rfl ?_; refine zs3 ?_; refine sf ?_; refine sl ?_; refine sv (PV.lenSl rfl) ?_; refine sm ?_; refine sv (PV.geq rfl rfl) ?_; refine sm ?_; refine gf ?_; refine gl ?_; refine gv (PV.lenSl rfl) ?_
  refine gm ?_; refine gv (PV.leq rfl rfl) ?_; refine sT ?_; refine sm ?_; refine gf ?_; refine gl ?_; refine gf ?_; refine gl ?_; refine gv (PV.seql rfl rfl) ?_; refine sT ?_; refine sm ?_; refine T.pv (PV.fieldAddr rfl) (Wanted.guard rfl rfl (by assumption)) rfl rfl ?_; refine T.pv (PV.load1 rfl zq0 rfl) (Wanted.guard rfl rfl (by assumption)) rfl rfl ?_; refine T.pv (PV.fieldAddr rfl) (Wanted.guard rfl rfl (by assumption)) rfl rfl ?_; refine T.pv (PV.load1 rfl zq0 rfl) (Wanted.guard rfl rfl (by assumption)) rfl rfl ?_; refine T.pv (PV.seql rfl rfl) (Wanted.guard rfl rfl (by assumption)) rfl rfl ?_; refine sv (PV.pickT rfl (by assumption) rfl) ?_; refine sm ?_; refine gf ?_; refine gl ?_; refine gf ?_; refine gl ?_; refine gv (PV.seql rfl rfl) ?_; refine sT ?_; refine sm ?_; refine T.pv (PV.fieldAddr rfl) (Wanted.guard rfl rfl (by assumption)) rfl rfl ?_; refine T.pv (PV.load1 rfl zq0 rfl) (Wanted.guard rfl rfl (by assumption)) rfl rfl ?_; refine T.pv (PV.fieldAddr rfl) (Wanted.guard rfl rfl (by assumption)) rfl rfl ?_; refine T.pv (PV.load1 rfl zq0 rfl) (Wanted.guard rfl rfl (by assumption)) rfl rfl ?_; refine T.pv (PV.seql rfl rfl) (Wanted.guard rfl rfl (by assumption)) rfl rfl ?_; refine sv (PV.pickT rfl (by assumption) rfl) ?_; refine sm ?_; refine gf ?_; refine gl ?_; refine gf ?_; refine gl ?_; refine gv (PV.beql rfl rfl) ?_; refine sT ?_; refine sa ?_; refine so ?_
  exact T.retF (Lv.fin (RV.tmp rfl rfl) (by rw [beq_self_eq_true]))
theorem first_fn (nm : ByteArray) (k : Nat) (st : Bool) (l : List (ByteArray × Bool)) (v : Value) (H : Hp) (hv : SlR H 2 v l.length (l.flatMap encAt)) (hl : l.length ≤ 1000) (ha : AtOk l nm st k) (hn : nm ≠ ⟨#[]⟩) : Fn Tryz.prog 46 #[v, .string nm] H (fun u _ => u = .int .i64 (k : Int)) := by
  have hat := attribute_in l v nm H hv hl
  rw [ha.ix] at hat
  have hne : decide (nm = ⟨#[]⟩) = false := decide_eq_false hn
  obtain ⟨ad, cap, rfl⟩ := hv.len
  refine Fn.of_T (vs := [.slice ad l.length cap, .string nm]) Tryz.func46 rfl rfl fun w => ?_; refine zs3 ?_; refine sa ?_; refine so ?_; refine sq ?_; refine zs3 ?_; refine sm ?_; refine sv (PV.seql rfl rfl) ?_; refine so ?_; refine T.condF rfl (by assumption) ?_; refine T.skip ?_; refine zs3 ?_; refine sm ?_; refine sm ?_; refine T.callV Wanted.none rfl rfl (hat) ?_; refine sa ?_; refine so ?_
  exact T.retF (Lv.fin (RV.tmp rfl rfl) rfl)
theorem namesV_fn (nm f : ByteArray) (fd st : Bool) (k : Nat) (l : List (ByteArray × Bool)) (v : Value) (H : Hp) (hv : SlR H 2 v l.length (l.flatMap encAt)) (hl : l.length ≤ 1000) (ha : AtOk l nm st k) (hn : nm ≠ ⟨#[]⟩) :
    Fn Tryz.prog 74 #[cvV nm f fd, v] H (fun u _ => u = .bool true) := by
  have hfi := first_fn nm k st l v H hv hl ha hn
  refine Fn.of_T (vs := [cvV nm f fd, v]) Tryz.func74 rfl rfl fun w => ?_; refine zs3 ?_; (refine T.box Wanted.none rfl rfl zq15 ?_; intro b2); refine sa ?_; refine so ?_; refine sq ?_; refine zs3 ?_; refine sf ?_; refine sl ?_; refine so ?_; refine T.block ?_; refine zs3 ?_; refine sv (PV.eql rfl rfl) ?_; refine sa ?_; refine so ?_; refine T.condT rfl rfl ?_; refine zs3 ?_; refine sm ?_; refine sf ?_; refine sl ?_; refine T.callV Wanted.none rfl rfl (hfi) ?_; refine sv (PV.geq rfl rfl) ?_; refine sa ?_; refine so ?_
  exact T.retF (Lv.fin (RV.tmp rfl rfl) (by rw [decide_eq_true (by omega)]))
theorem checkV_fn (nm f : ByteArray) (ws : List Nat) (fd st : Bool) (k : Nat) (l : List (ByteArray × Bool)) (v : Value) (H : Hp) (hT : U8T H) (hf : QText f ws) (hv : SlR H 2 v l.length (l.flatMap encAt)) (hl : l.length ≤ 1000) (ha : AtOk l nm st k) (hn : nm ≠ ⟨#[]⟩) :
    Fn Tryz.prog 42 #[cvV nm f fd, v, .slice none 0 0] H (fun u _ => u = .int .i64 0) := by
  have hsh := shapeV_fn nm f fd H
  have hnm := namesV_fn nm f fd st k l v H hv hl ha hn
  have hex := exErr_fn f ws H hT hf
  obtain ⟨ad, cap, rfl⟩ := hv.len
  refine Fn.of_T (vs := [cvV nm f fd, .slice ad l.length cap, .slice none 0 0]) Tryz.func42 rfl rfl fun w => ?_; refine zs3 ?_; (refine T.box Wanted.none rfl rfl zq15 ?_; intro b3); refine sa ?_; refine so ?_; refine sq ?_; refine zs3 ?_; refine sv (PV.loadAll rfl zq0 (by exact rfl)) ?_; refine T.callV Wanted.none rfl rfl (hsh) ?_; refine sv (PV.not rfl) ?_; refine so ?_; refine T.condF rfl rfl ?_; refine T.skip ?_; refine sq ?_; refine zs3 ?_; refine sv (PV.loadAll rfl zq0 (by exact rfl)) ?_; refine sm ?_; refine T.callV Wanted.none rfl rfl (hnm) ?_; refine sv (PV.not rfl) ?_; refine so ?_; refine T.condF rfl rfl ?_; refine T.skip ?_; refine sq ?_; refine zs3 ?_; refine sf ?_; refine sl ?_; refine so ?_; refine T.block ?_; refine zs3 ?_; refine sv (PV.eql rfl rfl) ?_; refine sa ?_; refine so ?_; refine T.condT rfl rfl ?_; refine zs3 ?_; refine sf ?_; refine sl ?_; refine T.callV Wanted.none rfl rfl (hex) ?_; refine sa ?_; refine so ?_
  exact T.retF (Lv.fin (RV.tmp rfl rfl) rfl)
theorem val1V_fn (nm f : ByteArray) (ws : List Nat) (fd st : Bool) (k : Nat) (l : List (ByteArray × Bool)) (v : Value) (b1 b2 : Nat) (H : Hp) (hT : U8T H) (hf : QText f ws) (hv : SlR H 2 v l.length (l.flatMap encAt)) (hl : l.length ≤ 1000) (ha : AtOk l nm st k) (hn : nm ≠ ⟨#[]⟩)
    (h1 : H b1 = some (.cells #[v] 22 (0, 0))) (h2 : H b2 = some (.cells #[.slice none 0 0] 28 (0, 0))) :
    Fn Tryz.prog 41 #[cvV nm f fd, .pointer (some ⟨b1, 0, none⟩), .pointer (some ⟨b2, 0, none⟩)] H (fun u _ => u = .int .i64 0) := by
  have hck := checkV_fn nm f ws fd st k l v H hT hf hv hl ha hn
  refine Fn.of_T (vs := [cvV nm f fd, .pointer (some ⟨b1, 0, none⟩), .pointer (some ⟨b2, 0, none⟩)]) Tryz.func41 rfl rfl fun w => ?_; refine zs3 ?_; (refine T.box Wanted.none rfl rfl zq15 ?_; intro b3); refine sa ?_; refine zs1 ?_; refine sv (PV.loadAll rfl zq0 (by exact rfl)) ?_; refine sl ?_; refine sl ?_; refine T.callV Wanted.none rfl rfl (hck) ?_; refine sa ?_; refine so ?_
  exact T.retF (Lv.fin (RV.tmp rfl rfl) rfl)
theorem walkV_fn (nm f : ByteArray) (fd : Bool) (gf : FuncId) [hE : Ent Tryz.prog gf] (cap : List Value) (H : Hp) (hg : Fn Tryz.prog gf (cvV nm f fd :: cap).toArray H (fun u _ => u = .int .i64 0)) :
    Fn Tryz.prog 40 #[cvV nm f fd, .func (.func gf) #[] cap.toArray] H (fun u _ => u = .int .i64 0) := by
  refine Fn.of_T (vs := [cvV nm f fd, .func (.func gf) #[] cap.toArray]) Tryz.func40 rfl rfl fun w => ?_; refine zs3 ?_; (refine T.box Wanted.none rfl rfl zq15 ?_; intro b2); refine sa ?_; refine so ?_; refine sq ?_; refine zs3 ?_; refine sm ?_; refine sv (PV.loadAll rfl zq0 (by exact rfl)) ?_; refine T.callF (cap := cap) Wanted.none rfl rfl rfl (by exact hg) ?_
  rintro _ H' hle rfl
  refine T.forget hle ?_ (Hp.le.refl _)
  refine sa ?_; refine zs1 ?_; refine sm ?_; refine sv (PV.neq rfl rfl) ?_; refine so ?_; refine T.condF rfl rfl ?_; refine T.skip ?_; refine sq ?_; refine zs3 ?_; refine sf ?_; refine sl ?_; refine sv (PV.lenSl rfl) ?_; refine sm ?_; refine so ?_; refine T.block ?_; refine T.loopR [(17, Value.int IntKind.i64 (↑0 : Int)), (16, Value.slice none 0 0), (1, Value.func (Fn.func gf) #[] cap.toArray)] zq8 18 0 rfl ?_
  intro i hi
  obtain rfl : i = 0 := by omega
  refine zs3 ?_; refine sv (PV.lss rfl rfl) ?_; refine so ?_; refine sq ?_; refine T.condF rfl rfl ?_; refine T.exit rfl ?_; refine zs3 ?_; refine sa ?_; refine so ?_
  exact T.retF (Lv.fin (RV.tmp rfl rfl) rfl)
theorem validateV_fn (nm f : ByteArray) (ws : List Nat) (fd st : Bool) (k : Nat) (l : List (ByteArray × Bool)) (v : Value) (H : Hp) (hT : U8T H) (hf : QText f ws) (hv : SlR H 2 v l.length (l.flatMap encAt)) (hl : l.length ≤ 1000) (ha : AtOk l nm st k) (hn : nm ≠ ⟨#[]⟩) :
    Fn Tryz.prog 24 #[cvV nm f fd, v, .slice none 0 0] H (fun u _ => u = .int .i64 0) := by
  obtain ⟨ad, cap, rfl⟩ := hv.len
  refine Fn.of_T (vs := [cvV nm f fd, .slice ad l.length cap, .slice none 0 0]) Tryz.func24 rfl rfl fun w => ?_; refine zs3 ?_; (refine T.box Wanted.none rfl rfl zq15 ?_; intro b3); (refine T.box Wanted.none rfl rfl zq15 ?_; intro b4); (refine T.box Wanted.none rfl rfl zq15 ?_; intro b5); refine sa ?_; refine so ?_; refine T.freezeB (b := b4) zq1 ?_
  intro H1 hle1 hb4
  refine T.freezeB (b := b5) zq1 ?_
  intro H2 hle2 hb5
  have hm := measureV_fn nm f fd H2
  have hw := walkV_fn nm f fd 41 [.pointer (some ⟨b4, 0, none⟩), .pointer (some ⟨b5, 0, none⟩)] H2 (val1V_fn nm f ws fd st k l _ b4 b5 H2 (hT.mono (hle1.trans hle2)) hf (hv.mono (hle1.trans hle2)) hl ha hn (hle2 _ _ hb4) hb5)
  refine sq ?_; refine zs3 ?_; refine sv (PV.loadAll rfl zq0 (by exact rfl)) ?_; (refine T.callX Wanted.none rfl rfl hm ?_; rintro _ rfl); refine sm ?_; refine sv (PV.extract rfl rfl) ?_; refine sv (PV.extract rfl rfl) ?_; refine sa ?_; refine sa ?_; refine zs1 ?_; refine sm ?_; refine sv (PV.gtr rfl rfl) ?_; refine sm ?_; refine gm ?_; refine gv (PV.gtr rfl rfl) ?_; refine sF ?_; refine so ?_; refine T.condF rfl rfl ?_; refine T.skip ?_; refine zs3 ?_; refine sv (PV.loadAll rfl zq0 (by exact rfl)) ?_; refine sv (PV.makeFunc rfl) ?_; (refine T.callX Wanted.none rfl rfl hw ?_; rintro _ rfl); refine sa ?_; refine so ?_
  exact T.retF (Lv.fin (RV.tmp rfl rfl) rfl)
end Go.Proofs.YtpjdhokpfccahaaGreatDoor
namespace Go.Proofs.YtpjdhokpfccahaaGreatDoor
open Go.RowKit

noncomputable def matG (c : Cp) (fd : Bool) (ws : List Nat) (a i : Nat) : Bool := mt (okF fd) ws (scs (valT c a i).data.toList)
theorem holdsV_fn (c : Cp) (i a : Nat) (t : Tk) (s nm f : ByteArray) (ws : List Nat) (fd st : Bool) (H : Hp) (hT : U8T H) (hf : QText f ws) (hc : CpA H c) (hti : c.tk[i]? = some t) (hsa : t.ss[a]? = some s) (hs : VvS s) (ha : AtOk c.att nm st a) (hn : nm ≠ ⟨#[]⟩) :
    Fn Tryz.prog 25 #[cpV c, cvV nm f fd, .int .i64 (i : Int), .slice none 0 0, .slice none 0 0] H (fun u _ => u = .bool (mt (okF fd) ws (scs s.data.toList))) := by
  have hfi := first_fn nm a st c.att c.va H hc.a hc.la ha hn
  have hva := valueC_fn c i a t s H hc hti hsa
  have hma := exMatch_fn f s fd ws H hT hf hs
  unfold cpV at hva ⊢
  obtain ⟨va, att, vt, tk, vx, tx, vr, rg, vn, nd, vh, hd, vs, rl⟩ := c
  dsimp only at hfi hva ⊢
  refine Fn.of_T (vs := [.agg #[va, vt, vx, vr, vn, vh, vs], cvV nm f fd, .int .i64 (i : Int), .slice none 0 0, .slice none 0 0]) Tryz.func25 rfl rfl fun w => ?_; refine zs3 ?_; (refine T.box Wanted.none rfl rfl zq15 ?_; intro b5); (refine T.box Wanted.none rfl rfl zq15 ?_; intro b6); (refine T.box Wanted.none rfl rfl zq15 ?_; intro b7); (refine T.box Wanted.none rfl rfl zq15 ?_; intro b8); (refine T.box Wanted.none rfl rfl zq15 ?_; intro b9); refine sa ?_; refine zs1 ?_; refine sv (PV.makeFunc rfl) ?_; refine sy fun b11 => ?_; refine T.store1 Wanted.none rfl rfl rfl zq14 zq13 ?_; refine so ?_; refine sq ?_; refine zs3 ?_; refine sf ?_; refine sl ?_; refine so ?_; refine T.block ?_; refine zs3 ?_; refine sv (PV.eql rfl rfl) ?_; refine sa ?_; refine so ?_; refine T.condF rfl rfl ?_; refine zs3 ?_; refine sv (PV.eql rfl rfl) ?_; refine sa ?_; refine so ?_; refine T.condT rfl rfl ?_; refine sq ?_; refine T.regionQ (by kernel_rfl) ?_; refine TQ.pv (PV.fieldAddr rfl) Wanted.none rfl rfl ?_; refine TQ.pv (PV.load1 rfl zq0 rfl) Wanted.none rfl rfl ?_; refine TQ.pv (PV.loadAll rfl zq0 (by exact rfl)) Wanted.none rfl rfl ?_; refine TQ.pv (PV.load1 rfl zq0 rfl) Wanted.none rfl rfl ?_; refine TQ.pv (PV.fieldAddr rfl) Wanted.none rfl rfl ?_; refine TQ.pv (PV.load1 rfl zq0 rfl) Wanted.none rfl rfl ?_; refine TQ.pv (PV.fieldAddr rfl) Wanted.none rfl rfl ?_; refine TQ.pv (PV.load1 rfl zq0 rfl) Wanted.none rfl rfl ?_; refine TQ.callV Wanted.none rfl rfl (hfi) ?_
  refine TQ.callV Wanted.none rfl rfl (hva) ?_; refine TQ.pv (PV.fieldAddr rfl) Wanted.none rfl rfl ?_; refine TQ.pv (PV.load1 rfl zq0 rfl) Wanted.none rfl rfl ?_; refine TQ.callV Wanted.none rfl rfl (hma) ?_; refine TQ.pv (PV.assign rfl) Wanted.none rfl rfl ?_; refine TQ.nil ?_
  exact T.retF (Lv.fin (RV.tmp rfl rfl) rfl)
set_option maxHeartbeats 1000000 in
theorem selectV_fn (c : Cp) (a : Nat) (nm f : ByteArray) (ws : List Nat) (fd st : Bool) (H : Hp) (hT : U8T H) (hf : QText f ws) (hc : CpA H c) (hg : cpGood c) (ha : AtOk c.att nm st a) (hn : nm ≠ ⟨#[]⟩) :
    Fn Tryz.prog 9 #[cpV c, cvV nm f fd] H (fun u H' => ∃ v, u = .tuple #[v, .int .i64 0] ∧ InL H' v (selG (matG c fd ws a) c.tk.length)) := by
  have hal := (List.getElem?_eq_some_iff.1 ha.at_).1
  have hla := largeV_fn nm f fd H
  have hlo := looseV_fn nm f fd H
  have hvd := validateV_fn nm f ws fd st a c.att c.va H hT hf hc.a hc.la ha hn
  have hho : ∀ i, i < c.tk.length → Fn Tryz.prog 25 #[cpV c, cvV nm f fd, .int .i64 (i : Int), .slice none 0 0, .slice none 0 0] H (fun u _ => u = .bool (matG c fd ws a i)) := fun i hi => by
    obtain ⟨t, h1, h2⟩ := valT_at hg hi hal
    exact holdsV_fn c i a t (valT c a i) nm f ws fd st H hT hf hc h1 h2 (hg.v t (List.mem_of_getElem? h1) _ (List.mem_of_getElem? h2)) ha hn
  have htk := hc.t
  have hlt := hc.lt
  obtain ⟨at1, ct, hvt⟩ := htk.len
  unfold cpV at hho ⊢
  obtain ⟨va, att, vt, tk, vx, tx, vr, rg, vn, nd, vh, hd, vs, rl⟩ := c
  dsimp only at hal hvd hho htk hvt hlt ⊢
  subst hvt
  refine Fn.of_T (vs := [.agg #[va, .slice at1 tk.length ct, vx, vr, vn, vh, vs], cvV nm f fd]) Tryz.func9 rfl rfl fun w => ?_; refine zs3 ?_; (refine T.box Wanted.none rfl rfl zq15 ?_; intro b2); (refine T.box Wanted.none rfl rfl zq15 ?_; intro b3); refine sa ?_; refine sa ?_; refine so ?_; refine sq ?_; refine zs3 ?_; refine sv (PV.loadAll rfl zq0 (by exact rfl)) ?_; refine T.callV Wanted.none rfl rfl (hla) ?_; refine so ?_; refine T.condF rfl rfl ?_; refine T.skip ?_; refine zs3 ?_; refine sv (PV.loadAll rfl zq0 (by exact rfl)) ?_; refine T.callV Wanted.none rfl rfl (hlo) ?_; refine T.storeA Wanted.none rfl rfl zq8 (by exact rfl) zq14 zq13 ?_; refine so ?_; refine sq ?_; refine zs3 ?_; refine sv (PV.loadAll rfl zq0 (by exact rfl)) ?_; refine sf ?_; refine sl ?_; refine T.callV Wanted.none rfl rfl (hvd) ?_; refine sa ?_; refine zs1 ?_; refine sm ?_; refine sv (PV.neq rfl rfl) ?_; refine so ?_; refine T.condF rfl rfl ?_; refine T.skip ?_; refine zs3 ?_; refine sa ?_; refine so ?_; refine sq ?_; refine zs3 ?_; refine sf ?_; refine sl ?_; refine sv (PV.lenSl rfl) ?_
  refine sm ?_; refine so ?_; refine T.block ?_
  generalize hgg : matG ⟨va, att, .slice at1 tk.length ct, tk, vx, tx, vr, rg, vn, nd, vh, hd, vs, rl⟩ fd ws a = g at hho ⊢
  refine T.loopK [(22, Value.int IntKind.i64 (↑tk.length : Int)), (3, Value.pointer (some { block := b3, off := 0 })), (2, Value.pointer (some { block := b2, off := 0 }))] zq8 (γ := SelS) (fun s => s.i ≤ tk.length ∧ RowV 3 encI 1 s.v s.lv (selG g s.i)) (fun s => [(23, .int .i64 (s.i : Int)), (7, s.v)]) (fun s => s.lv ++ _) (fun _ => H) (fun s => tk.length - s.i) ⟨0, .slice none 0 0, []⟩ ⟨Nat.zero_le _, Vec.nil _ _⟩ zq8 (by repeat (first | exact Sel.refl _ | exact Sel.nil | (refine Sel.cons zq1 ?_) | (refine Sel.app zq1 ?_) | exact Sel.one zq1)) rfl ?_
  rintro ⟨i, v, lv⟩ ⟨g1, g2⟩
  dsimp only at g1 g2 ⊢
  obtain ⟨ad, cap, rfl⟩ := g2.val
  have hsl := selG_len g i
  by_cases hi : i < tk.length
  · have hh := hho i hi
    have hsu := selG_succ g i
    cases hgi : g i
    · rw [hgi] at hh hsu
      refine zs3 ?_; refine sv (PV.lss rfl rfl) ?_; refine so ?_; refine sq ?_; refine sC rfl (by omega) ?_; refine T.skip ?_; refine sq ?_; refine T.block ?_; refine zs3 ?_; refine sm ?_; refine sa ?_; refine zs1 ?_; refine sv (PV.loadAll rfl zq0 (by exact rfl)) ?_; refine sv (PV.loadAll rfl zq0 (by exact rfl)) ?_; refine sm ?_; refine T.callV Wanted.none rfl rfl (hh) ?_; refine so ?_; refine T.condF rfl rfl ?_; refine T.skip ?_; refine T.blkEnd ?_; refine sr ?_; refine sv (PV.add rfl rfl (by omega)) ?_; refine sm ?_; refine so ?_
      exact T.nextP ⟨i + 1, _, lv⟩ ⟨by dsimp only; omega, by rw [hsu]; simpa using g2⟩ (by dsimp only; omega) zq8 (by repeat (first | exact Sel.refl _ | exact Sel.nil | (refine Sel.cons zq1 ?_) | (refine Sel.app zq1 ?_) | exact Sel.one zq1)) rfl
    · rw [hgi] at hh hsu
      refine zs3 ?_; refine sv (PV.lss rfl rfl) ?_; refine so ?_; refine sq ?_; refine sC rfl (by omega) ?_; refine T.skip ?_; refine sq ?_; refine T.block ?_; refine zs3 ?_; refine sm ?_; refine sa ?_; refine zs1 ?_; refine sv (PV.loadAll rfl zq0 (by exact rfl)) ?_; refine sv (PV.loadAll rfl zq0 (by exact rfl)) ?_; refine sm ?_; refine T.callV Wanted.none rfl rfl (hh) ?_; refine so ?_; refine T.condT rfl rfl ?_; refine sr ?_; refine sm ?_; refine sm ?_; (refine T.buildSlice Wanted.none rfl rfl zq11 (by exact rfl) (by exact rfl) ?_; intro b32); (refine T.appendP (lv := lv) Wanted.none rfl rfl rfl g2 (Src.cells (m := 1) (ys := encI _) (.own zq2) rfl rfl) (one_encI _) (by omega) zq1 ?_; intro v33 lv33 hv33 _); refine sa ?_; refine so ?_; refine T.blkEnd ?_; refine sr ?_; refine sv (PV.add rfl rfl (by omega)) ?_; refine sm ?_; refine so ?_
      exact T.nextP ⟨i + 1, _, lv33⟩ ⟨by dsimp only; omega, by rw [hsu]; exact RowV.snoc hv33⟩ (by dsimp only; omega) zq8 (by repeat (first | exact Sel.refl _ | exact Sel.nil | (refine Sel.cons zq1 ?_) | (refine Sel.app zq1 ?_) | exact Sel.one zq1)) rfl
  · obtain rfl : i = tk.length := by omega
    refine zs3 ?_; refine sv (PV.lss rfl rfl) ?_; refine so ?_; refine sq ?_; refine sd rfl (by omega) ?_; refine T.exit rfl ?_; refine zs3 ?_; refine sm ?_; refine sa ?_; refine sa ?_; refine so ?_; refine T.freezeP (lv := lv) g2 zq1 ?_
    intro Ha hla2 hsa
    exact T.retF (Lv.fin (RV.tmp2 rfl rfl rfl) ⟨_, rfl, hsa⟩)
end Go.Proofs.YtpjdhokpfccahaaGreatDoor
namespace Go.Proofs.YtpjdhokpfccahaaGreatDoor
open Go.RowKit

theorem encL_app (a b : List Nat) : encL (a ++ b) = encL a ++ encL b := by unfold encL; rw [List.flatMap_append]
theorem qL_take {ws : List Nat} {i w : Nat} (h : ws[i]? = some w) : qL (ws.take (i + 1)) = qL (ws.take i) ++ qR w := by
  unfold qL
  rw [List.take_add_one, h, List.flatMap_append]
  simp
theorem qL_len : ∀ ws : List Nat, (encL (qL ws)).length ≤ 2 * (encL ws).length
  | [] => Nat.le_refl _
  | w :: ws => by
    have h1 := qL_len ws
    have h2 := encB_len w
    have e1 : encL (w :: ws) = encB w ++ encL ws := by unfold encL; rw [List.flatMap_cons]
    have e2 : encL (qL (w :: ws)) = encL (qR w) ++ encL (qL ws) := by unfold qL; rw [List.flatMap_cons, encL_app]
    have e3 : (encL (qR w)).length ≤ 2 * (encB w).length := by
      unfold qR
      split
      · have h92 : (encB 92).length = 1 := by decide
        unfold encL
        simp only [List.flatMap_cons, List.flatMap_nil, List.append_nil, List.length_append, h92]
        omega
      · unfold encL
        simp only [List.flatMap_cons, List.flatMap_nil, List.append_nil]
        omega
    rw [e1, e2, List.length_append, List.length_append]
    omega
theorem encL_ge : ∀ ws : List Nat, ws.length ≤ (encL ws).length
  | [] => Nat.le_refl _
  | w :: ws => by
    have h1 := encL_ge ws
    have h2 := encB_len w
    have e1 : encL (w :: ws) = encB w ++ encL ws := by unfold encL; rw [List.flatMap_cons]
    rw [e1, List.length_append, List.length_cons]
    omega
theorem quote1 {q : ByteArray} {ws : List Nat} {i v : Nat} (h : q.data.toList = encL (qL (ws.take i))) (hv : ws[i]? = some v) (hs : sc v) (hp : spc v = false) : (q ++ Utf8.encode (v : Int)).data.toList = encL (qL (ws.take (i + 1))) := by
  rw [app_list, h, encode_B hs, qL_take hv, encL_app]
  unfold qR
  rw [hp]
  unfold encL; simp
theorem quote2 {q : ByteArray} {ws : List Nat} {i v : Nat} (h : q.data.toList = encL (qL (ws.take i))) (hv : ws[i]? = some v) (hs : sc v) (hp : spc v = true) : (q ++ ⟨#[92]⟩ ++ Utf8.encode (v : Int)).data.toList = encL (qL (ws.take (i + 1))) := by
  rw [app_list, app_list, h, encode_B hs, qL_take hv, encL_app]
  unfold qR
  rw [if_pos hp]
  have h92 : encB 92 = [92] := by decide
  unfold encL; simp [h92]
theorem sameIA_fn (l : List Int) (v1 v2 : Value) (H : Hp) (h1 : InL H v1 l) (h2 : InL H v2 l) (hl : l.length ≤ 1000) : Fn Tryz.prog 10 #[v1, v2] H (fun u _ => u = .bool true) := by
  obtain ⟨a1, c1, rfl⟩ := h1.len
  obtain ⟨a2, c2, rfl⟩ := h2.len
  refine Fn.of_T (vs := [.slice a1 l.length c1, .slice a2 l.length c2]) Tryz.func10 rfl rfl fun w => ?_; refine zs3 ?_; refine sa ?_; refine so ?_; refine sq ?_; refine zs3 ?_; refine sm ?_; refine sv (PV.lenSl rfl) ?_; refine sm ?_; refine sv (PV.lenSl rfl) ?_; refine sv (PV.neq rfl rfl) ?_; refine so ?_; refine sd rfl (by omega) ?_; refine T.skip ?_; refine sq ?_; refine zs3 ?_; refine sm ?_; refine sv (PV.lenSl rfl) ?_; refine sm ?_; refine so ?_; refine T.block ?_; refine T.loopR [(12, Value.int IntKind.i64 (↑l.length : Int)), (0, Value.slice a1 l.length c1), (1, Value.slice a2 l.length c2)] zq8 13 l.length rfl ?_
  intro i hi0
  by_cases hi : i < l.length
  · obtain ⟨b1, off1, x, rfl, hx1, hsub1⟩ := RowL.get encI_len h1 hi
    obtain ⟨b2, off2, y, rfl, hx2, hsub2⟩ := RowL.get encI_len h2 hi
    rw [hx1] at hx2
    obtain rfl := Option.some.inj hx2
    unfold encI at hsub1 hsub2
    refine zs3 ?_; refine sv (PV.lss rfl rfl) ?_; refine so ?_; refine sq ?_; refine sC rfl (by omega) ?_; refine T.skip ?_; refine sq ?_; refine T.block ?_; refine zs3 ?_; refine sm ?_; refine sa ?_; refine so ?_; refine sq ?_; refine T.regionQ (by kernel_rfl) ?_; refine TQ.pv (PV.move rfl) Wanted.none rfl rfl ?_; refine TQ.pv (PV.move rfl) Wanted.none rfl rfl ?_; refine TQ.pv (PV.indexAddr rfl rfl (by omega)) Wanted.none rfl rfl ?_; refine TQ.pv (PV.loadSub0 rfl (by assumption)) Wanted.none rfl rfl ?_; refine TQ.pv (PV.move rfl) Wanted.none rfl rfl ?_; refine TQ.pv (PV.move rfl) Wanted.none rfl rfl ?_; refine TQ.pv (PV.indexAddr rfl rfl (by omega)) Wanted.none rfl rfl ?_; refine TQ.pv (PV.loadSub0 rfl (by assumption)) Wanted.none rfl rfl ?_; refine TQ.pv (PV.neq rfl rfl) Wanted.none rfl rfl ?_; refine TQ.nil ?_; refine sd rfl (by omega) ?_; refine T.skip ?_; refine T.blkEnd ?_; refine sr ?_; refine sv (PV.add rfl rfl (by omega)) ?_; refine sm ?_; refine so ?_
    exact T.nextR hi rfl zq8 (by repeat (first | exact Sel.refl _ | exact Sel.nil | (refine Sel.cons zq1 ?_) | (refine Sel.app zq1 ?_) | exact Sel.one zq1))
  · refine zs3 ?_; refine sv (PV.lss rfl rfl) ?_; refine so ?_; refine sq ?_; refine sd rfl (by omega) ?_; refine T.exit rfl ?_; refine zs3 ?_; refine sa ?_; refine so ?_
    exact T.retF (Lv.fin (RV.tmp rfl rfl) rfl)
/-- a value of an attribute, folded unless it is a set -/
def fdV (att : List (ByteArray × Bool)) (a : Nat) (s : ByteArray) : ByteArray := if ((att[a]?).map (·.2)) = some true then s else foldS s
def fdL (att : List (ByteArray × Bool)) (ss : List ByteArray) : List ByteArray := ss.mapIdx (fdV att)
theorem fdL_len (att : List (ByteArray × Bool)) (ss : List ByteArray) : (fdL att ss).length = ss.length := by unfold fdL; rw [List.length_mapIdx]
theorem fdL_take {att : List (ByteArray × Bool)} {ss : List ByteArray} {i : Nat} {s : ByteArray} (h : ss[i]? = some s) : fdL att (ss.take (i + 1)) = fdL att (ss.take i) ++ [fdV att i s] := by
  unfold fdL
  have hl : (ss.take i).length = i := by
    have := (List.getElem?_eq_some_iff.1 h).1
    rw [List.length_take]; omega
  rw [List.take_add_one, h, List.mapIdx_append, hl]
  simp
theorem fdV_vv {att : List (ByteArray × Bool)} {a : Nat} {s : ByteArray} (h : VvS s) : VvS (fdV att a s) := by
  unfold fdV
  split
  · exact h
  · exact ⟨by rw [foldS_size]; exact h.1, by rw [foldS_valid]; exact h.2⟩
/-- the tokens of a list are the folded tokens of a corpus -/
structure FdT (c : Cp) (tks : List Tk) : Prop where
  l : tks.length ≤ c.tk.length
  s : ∀ (j : Nat) (t' : Tk), tks[j]? = some t' → ∃ t, c.tk[j]? = some t ∧ t'.ss = fdL c.att t.ss
theorem FdT.snoc {c : Cp} {tks : List Tk} {t t' : Tk} (h : FdT c tks) (ht : c.tk[tks.length]? = some t) (hs : t'.ss = fdL c.att t.ss) : FdT c (tks ++ [t']) := by
  have hl := (List.getElem?_eq_some_iff.1 ht).1
  refine ⟨by rw [List.length_append]; simp; omega, fun j x hx => ?_⟩
  rcases Nat.lt_trichotomy j tks.length with hj | rfl | hj
  · rw [List.getElem?_append_left hj] at hx
    exact h.s j x hx
  · rw [List.getElem?_append_right (Nat.le_refl _), Nat.sub_self] at hx
    obtain rfl := Option.some.inj hx
    exact ⟨t, ht, hs⟩
  · rw [List.getElem?_eq_none (by rw [List.length_append]; simp; omega)] at hx
    cases hx
/-- the corpus with the folded tokens -/
def fdC (c : Cp) (v : Value) (tks : List Tk) : Cp := { c with vt := v, tk := tks }
theorem fd_good {c : Cp} {v : Value} {tks : List Tk} (hg : cpGood c) (h : FdT c tks) (hl : tks.length = c.tk.length) : cpGood (fdC c v tks) := by
  refine ⟨hg.d, fun t ht => ?_, fun t ht z hz => ?_, ?_, hg.r, hg.e⟩
  · obtain ⟨j, hj⟩ := List.getElem?_of_mem ht
    obtain ⟨u, hu, e⟩ := h.s j t hj
    rw [e, fdL_len]
    exact hg.t u (List.mem_of_getElem? hu)
  · obtain ⟨j, hj⟩ := List.getElem?_of_mem ht
    obtain ⟨u, hu, e⟩ := h.s j t hj
    rw [e] at hz
    unfold fdL at hz
    obtain ⟨k, hk, rfl⟩ := List.mem_mapIdx.1 hz
    exact fdV_vv (hg.v u (List.mem_of_getElem? hu) _ (List.getElem_mem hk))
  · show txChain 0 c.tx (tks.length : Int)
    rw [hl]; exact hg.x
theorem fd_val {c : Cp} {v : Value} {tks : List Tk} (hg : cpGood c) (h : FdT c tks) (hl : tks.length = c.tk.length) {a i : Nat} (hi : i < c.tk.length) (ha : a < c.att.length) : valT (fdC c v tks) a i = fdV c.att a (valT c a i) ∧ VvS (valT c a i) := by
  obtain ⟨t, h1, h2⟩ := valT_at hg hi ha
  obtain ⟨t', h3⟩ : ∃ t', tks[i]? = some t' := ⟨_, List.getElem?_eq_getElem (by omega)⟩
  obtain ⟨u, hu, e⟩ := h.s i t' h3
  rw [h1] at hu
  obtain rfl := Option.some.inj hu
  refine ⟨?_, hg.v t (List.mem_of_getElem? h1) _ (List.mem_of_getElem? h2)⟩
  have : valT (fdC c v tks) a i = (t'.ss[a]?).getD ⟨#[]⟩ := by
    unfold valT fdC
    dsimp only
    rw [h3]; rfl
  rw [this, e]
  unfold fdL
  rw [List.getElem?_mapIdx, h2]; rfl
theorem fd_mat {c : Cp} {v : Value} {tks : List Tk} {ws : List Nat} {nm : ByteArray} (hg : cpGood c) (h : FdT c tks) (hl : tks.length = c.tk.length) {a : Nat} (hx : c.att[a]? = some (nm, false)) : selG (matG (fdC c v tks) false (ws.map lowN) a) (fdC c v tks).tk.length = selG (matG c true ws a) c.tk.length := by
  show selG (matG (fdC c v tks) false (ws.map lowN) a) tks.length = _
  rw [hl]
  unfold selG
  congr 1
  refine List.filter_congr fun i hi => ?_
  obtain ⟨h1, h2⟩ := fd_val (v := v) hg h hl (List.mem_range.1 hi) (List.getElem?_eq_some_iff.1 hx).1
  unfold matG
  rw [h1]
  unfold fdV
  rw [hx]
  have hvb := h2.2
  rw [validS_ub] at hvb
  rw [if_neg (by simp), foldS_list, scs_fold hvb]
  have e1 : mt (okF false) (ws.map lowN) ((scs (valT c a i).data.toList).map lowN) = decide (ws.map lowN = (scs (valT c a i).data.toList).map lowN) := mt_eq _ _
  have e2 : mt (okF true) ws (scs (valT c a i).data.toList) = decide (ws.map lowN = (scs (valT c a i).data.toList).map lowN) := mt_map lowN _ _
  rw [e1, e2]
end Go.Proofs.YtpjdhokpfccahaaGreatDoor
