/- match: repeat: the states to which a repetition of any token leads.
   match: the states to which the whole pattern leads. -/
import Derived.Test.YtbcadnjfegiakaaGreatDoorGU
namespace Go.Proofs.YtbcadnjfegiakaaGreatDoor
open Go.RowKit


theorem clone_ext (b : Nat) (w : World) (v : Value) (w' : World) (h : (Extern.MapsClone.clone #[.iface 141 (.map (some b))]).run Tryz.prog w = .ok v w') : (callFunc 262 #[.iface 141 (.map (some b))]).run Tryz.prog w = .ok (.value v) w' := by
  rw [run_callFunc_extern Tryz.func262 (by kernel_rfl) (by kernel_rfl) (by kernel_rfl) (e := Extern.MapsClone.clone) (by kernel_rfl), h]
  rfl
theorem cloneS_fn (b : Nat) (es : Array MapEntry) (clock : Nat) (H : Hp) (hb : H b = some (.map es clock)) : FnW Tryz.prog 215 #[.map (some b)] H [] (fun v H' l' => ∃ b', v = .map (some b') ∧ H' = H ∧ l' = [(b', .map es clock)]) := by
  refine FnW.of_T (vs := [.map (some b)]) Tryz.func215 rfl rfl fun w => ?_; refine zs3 ?_; refine yq11 ?_; refine yq4 ?_; refine sv (PV.mapNil un_set rfl rfl) ?_; refine so ?_; refine yq7 ?_; refine yq4 ?_; refine sv (PV.boxMap un_set rfl) ?_; refine T.cloneMap (clone_ext b) Wanted.none rfl rfl (.fro hb) ?_
  intro b'
  refine sv (PV.unboxMap un_set rfl) ?_; refine yq0 ?_
  exact T.retW (Lv.finW _ zq4 (RV.tmp rfl rfl) ⟨b', rfl, rfl, rfl⟩)
theorem PV.notIn {e : Env} {l : List (Nat × Obj)} {H : Hp} {dst : Option Tmp} {ty : TypeId} {pos : String} {after : Array Edge} {gd : Option (Nat × Bool)} {x y : Operand} {b : Nat} {es : Array MapEntry} {clock : Nat} {s : List Int} {a : Int}
    (hx : evE e x = some (.map (some b))) (hy : evE e y = some (stV a)) (hs : SetB stV es clock s) (hl : SomeObj l H b (.map es clock)) (hn : a ∉ s) :
    PV Tryz.prog e l H ⟨dst, .lookup 141 x y false, ty, pos, after, gd⟩ (.bool false) := by
  have := PV.inSet (P := Tryz.prog) (dst := dst) (ty := ty) (pos := pos) (after := after) (gd := gd) un_set zv_bool (st_key H) hx hy hs hl
  rw [decide_eq_false hn] at this
  exact this
structure CpyG where
  seen : Array Nat
  left : Kvs Int
  done : List Int
  eo : Array MapEntry
  co : Nat
  lo : List Int
set_option maxHeartbeats 1000000 in
theorem copyS_fn (bd bs : Nat) (ed es : Array MapEntry) (cd cs : Nat) (ld ls : List Int) (H : Hp) (hd : SetB stV ed cd ld) (hs : SetB stV es cs ls) (hb : H bs = some (.map es cs)) :
    FnW Tryz.prog 216 #[.map (some bd), .map (some bs)] H [(bd, .map ed cd)] (fun v H' l' => ∃ e' c' l, v = .tuple #[] ∧ H' = H ∧ l' = [(bd, .map e' c')] ∧ SetB stV e' c' l ∧ ∀ t, t ∈ l ↔ t ∈ ld ∨ t ∈ ls) := by
  refine FnW.of_T (vs := [.map (some bd), .map (some bs)]) Tryz.func216 rfl rfl fun w => ?_; refine yq4 ?_; refine T.rangeMap un_set Wanted.none rfl rfl hs (.fro hb) ?_
  intro r1 hr1
  refine so ?_; refine T.block ?_; refine T.loopK [(7, Value.pointer (some { block := r1, off := 0 })), (0, Value.map (some bd))] zq8 (γ := CpyG) (fun g => Rnd stV es cs cs cs g.seen g.left ∧ ls.Perm (g.done ++ g.left.map (·.1)) ∧ (∀ p ∈ g.left, p.2 = .bool true) ∧ SetB stV g.eo g.co g.lo ∧ (∀ t, t ∈ g.lo ↔ t ∈ ld ∨ t ∈ g.done)) (fun _ => []) (fun g => [(r1, .mapIter (some bs) cs g.seen cs), (bd, .map g.eo g.co)]) (fun _ => H) (fun g => g.left.length) ⟨#[], setK ls, [], ed, cd, ld⟩ ⟨hr1, by rw [setK_keys]; exact List.Perm.refl _, (by intro p hp; obtain ⟨a, _, rfl⟩ := List.mem_map.1 hp; rfl), hd, by simp⟩ zq8 (by repeat (first | exact Sel.refl _ | exact Sel.nil | (refine Sel.cons zq1 ?_) | (refine Sel.app zq1 ?_) | exact Sel.one zq1)) rfl ?_
  rintro ⟨seen, left, done, eo, co, lo⟩ ⟨g1, g2, g3, g4, g5⟩
  dsimp only at g1 g2 g3 g4 g5 ⊢
  refine zs3 ?_; refine T.nextMap Wanted.none rfl rfl (.fro hb) g1 [] rfl ?_ ?_
  · intro hl
    subst hl
    rw [List.map_nil, List.append_nil] at g2
    refine sv (PV.extract rfl rfl) ?_; refine so ?_; refine sq ?_; refine yq22 ?_
    exact T.fallW (Lv.finW [(bd, .map eo co)] zq4 (RV.none rfl) ⟨eo, co, lo, rfl, rfl, rfl, g4, fun t => by rw [g5 t, g2.mem_iff]⟩)
  · intro s v left' seen' hp g1' hcur
    obtain rfl : v = .bool true := g3 (s, v) (hp.mem_iff.2 List.mem_cons_self)
    refine sv (PV.extract rfl rfl) ?_; refine so ?_; refine sq ?_; refine T.condT rfl rfl ?_; refine T.skip ?_; refine T.block ?_; refine zs3 ?_; refine sv (PV.entryMap rfl (.fro hb) g1'.nd hcur zq2) ?_; refine yq19 ?_; refine sy fun b4 => ?_; refine T.storeA Wanted.none rfl rfl zq8 (by exact rfl) zq14 zq13 ?_; refine sa ?_; refine zs2 ?_; refine sm ?_; refine sv (PV.loadAll rfl zq0 (by exact rfl)) ?_; refine sm ?_; refine T.putMap (α := Int) un_set (st_key H) Wanted.none rfl rfl rfl g4 [_, _] rfl ?_
    intro eo3 co3 hm
    rw [setK_put] at hm
    refine so ?_; refine T.blkEnd ?_
    refine T.nextP ⟨seen', left', done ++ [s], eo3, co3, addK lo s⟩ ⟨g1', perm_step g2 hp, fun p hpm => g3 p (hp.mem_iff.2 (List.mem_cons_of_mem _ hpm)), hm, fun x => ?_⟩ (len_step hp) zq8 (by repeat (first | exact Sel.refl _ | exact Sel.nil | (refine Sel.cons zq1 ?_) | (refine Sel.app zq1 ?_) | exact Sel.one zq1)) rfl
    dsimp only
    rw [addK_mem, g5 x, List.mem_append, List.mem_singleton, or_assoc]
section
variable {H : Hp} {c : Cp} {kind : ByteArray} {bq bs bt br bk : Nat} {tb te : Int}
theorem loopR_fn (hR : RunR H c kind bq bs bt br bk tb te) : Fn Tryz.prog 214 #[.pointer (some ⟨bs, 0 + 1 * 13, none⟩)] H (fun u _ => u = .bool true) := by
  have hsub := hR.q.sub .r
  unfold Pid.pn Pid.ad encPn pR at hsub
  dsimp only at hsub
  refine Fn.of_T (vs := [.pointer (some ⟨bs, 0 + 1 * 13, none⟩)]) Tryz.func214 rfl rfl fun w => ?_; refine zs3 ?_; refine yq28 ?_; refine sv (PV.nilCheck rfl) ?_; refine sf ?_; refine sv (PV.loadSub rfl (by assumption) rfl) ?_; refine sv (PV.eql rfl rfl) ?_; refine sm ?_; refine gm ?_; refine gv (PV.nilCheck rfl) ?_; refine gf ?_; refine gv (PV.loadSub rfl (by assumption) rfl) ?_; refine gv (PV.lss rfl rfl) ?_; refine sT ?_; refine sm ?_; refine gm ?_; refine gv (PV.nilCheck rfl) ?_; refine gf ?_; refine gv (PV.loadSub rfl (by assumption) rfl) ?_; refine gv (PV.leq rfl rfl) ?_; refine sT ?_; refine yq0 ?_
  exact T.retF (Lv.fin (RV.tmp rfl rfl) rfl)
theorem loopT_fn (hR : RunR H c kind bq bs bt br bk tb te) : Fn Tryz.prog 214 #[.pointer (some ⟨bt, 0, none⟩)] H (fun u _ => u = .bool false) := by
  have hsub := hR.q.sub .t
  unfold Pid.pn Pid.ad encPn pT at hsub
  dsimp only at hsub
  refine Fn.of_T (vs := [.pointer (some ⟨bt, 0, none⟩)]) Tryz.func214 rfl rfl fun w => ?_; refine zs3 ?_; refine yq28 ?_; refine sv (PV.nilCheck rfl) ?_; refine sf ?_; refine sv (PV.loadSub rfl (by assumption) rfl) ?_; refine sv (PV.eql rfl rfl) ?_; refine sm ?_; refine yq17 ?_; refine yq17 ?_; refine sp ?_; refine sF ?_; refine sm ?_; refine yq17 ?_; refine yq17 ?_; refine sp ?_; refine sF ?_; refine yq0 ?_
  exact T.retF (Lv.fin (RV.tmp rfl rfl) rfl)
end
/-- a round over the states from which one iteration leads, and over those to which it does -/
structure Rp4 where
  seen : Array Nat
  left : Kvs Int
  done : List Int
  H : Hp
  en : Array MapEntry
  cn : Nat
  ln : List Int
  ek : Array MapEntry
  ck : Nat
structure Rp5 where
  seen : Array Nat
  left : Kvs Int
  done : List Int
  en : Array MapEntry
  cn : Nat
  ln : List Int
structure Rp2 where
  i : Nat
  bf : Nat
  H : Hp
  ek : Array MapEntry
  ck : Nat
/-- what a run of the repetition has come to -/
structure RpG where
  n : Nat
  bf : Nat
  H : Hp
  eo : Array MapEntry
  co : Nat
  lo : List Int
  ek : Array MapEntry
  ck : Nat
section
variable {c : Cp} {kind : ByteArray} {bq bs bt br bk : Nat} {tb te : Int}
set_option maxHeartbeats 8000000 in
theorem repeat_fn (a : Int) (ha : 0 ≤ a ∧ a ≤ te) (H : Hp) (es : Array MapEntry) (clock : Nat) (hR : RunR H c kind bq bs bt br bk tb te) (hK : Kn H bq bs bt c.rg kind tb te es clock) :
    FnW Tryz.prog 155 #[.pointer (some ⟨br, 0, none⟩), .pointer (some ⟨bs, 0 + 1 * 13, none⟩), stV a] H [(bk, .map es clock)] (RchR bq bs bt bk c.rg kind tb te (fun t => a < t ∧ t ≤ te)) := by
  have hlR := loopR_fn hR
  have hlT := loopT_fn hR
  have hsub := hR.q.sub .r
  have hte := hR.te
  unfold Pid.pn Pid.ad encPn pR at hsub
  dsimp only at hsub
  unfold stV
  refine FnW.of_T (vs := [.pointer (some ⟨br, 0, none⟩), .pointer (some ⟨bs, 0 + 1 * 13, none⟩), .agg #[.int .i64 a, .int .i64 0, .int .i64 0, .int .i64 0]]) Tryz.func155 rfl rfl fun w => ?_; refine zs3 ?_; (refine T.box Wanted.none rfl rfl zq15 ?_; intro b5); refine yq28 ?_; refine sv (PV.nilCheck rfl) ?_; refine sf ?_; refine sv (PV.loadSub rfl (by assumption) rfl) ?_; refine yq28 ?_; refine sv (PV.nilCheck rfl) ?_; refine sf ?_; refine sv (PV.loadSub rfl (by assumption) rfl) ?_; refine sv (PV.indexAddr rfl rfl (by omega)) ?_; refine yq11 ?_; refine T.block ?_; refine T.loopK [(5, Value.pointer (some { block := b5, off := 0 })), (0, Value.pointer (some { block := br, off := 0 })), (1, Value.pointer (some { block := bs, off := 0 + 1 * 13 }))] zq8 (γ := Unit) (fun _ => True) (fun _ => [(7, .int .i64 1), (8, .pointer (some ⟨bt, 0, none⟩))]) (fun _ => _) (fun _ => H) (fun _ => 0) () trivial zq8 (Sel.refl _) rfl ?_
  rintro _ _
  refine sq ?_; refine yq4 ?_; refine T.callV Wanted.none rfl rfl (hlR) ?_; refine sm ?_; refine gm ?_; refine T.callV (Wanted.guard rfl rfl rfl) rfl rfl (hlT) ?_; refine sT ?_; refine so ?_; refine yq22 ?_; refine zs3 ?_; refine T.mkMap Wanted.none rfl ?_
  intro bf0
  refine sv (PV.loadAll rfl zq0 (by exact rfl)) ?_; refine T.insMap (α := Int) un_set (st_key H) Wanted.none rfl rfl rfl (MapB.empty stV 0) [] rfl ?_
  intro ef0 cf0 hf0
  rw [show ([] : Kvs Int) = setK [] from rfl, setK_put] at hf0
  refine T.freezeB (b := bf0) zq1 ?_
  intro H1 hle1 hbf0
  refine sm ?_; refine yq11 ?_; refine yq4 ?_; refine yq35 ?_; refine T.loopK [(44, Value.int IntKind.i64 1), (7, Value.int IntKind.i64 1), (8, Value.pointer (some { block := bt, off := 0 })), (0, Value.pointer (some { block := br, off := 0 })), (1, Value.pointer (some { block := bs, off := 0 + 1 * 13 }))] zq8 (γ := Rp2) (fun g => g.i ≤ 1 ∧ H1.le g.H ∧ SetIn g.H g.bf (fun t => if g.i = 0 then t = a else a < te ∧ t = a + 1) ∧ Kn g.H bq bs bt c.rg kind tb te g.ek g.ck) (fun g => [(45, .int .i64 (g.i : Int)), (9, .map (some g.bf))]) (fun g => [(b5, .cells #[.int .i64 a, .int .i64 0, .int .i64 0, .int .i64 0] 146 (0, 0)), (bk, .map g.ek g.ck)]) (fun g => g.H) (fun g => 1 - g.i) ⟨0, bf0, H1, es, clock⟩ ⟨Nat.zero_le _, Hp.le.refl _, ⟨_, _, _, hbf0, hf0, fun t => by rw [addK_mem]; simp⟩, hK.mono hle1⟩ zq8 (by repeat (first | exact Sel.refl _ | exact Sel.nil | (refine Sel.cons zq1 ?_) | (refine Sel.app zq1 ?_) | exact Sel.one zq1)) rfl ?_
  rintro ⟨i, bf, H2, ek, ck⟩ ⟨g1, g2, ⟨ef, cf, lf, hbf, hsf, hmf⟩, g4⟩
  dsimp only at g1 g2 hbf hsf hmf g4 ⊢
  have hR2 := hR.mono (hle1.trans g2)
  by_cases hi : i < 1
  · obtain rfl : i = 0 := by omega
    have hlead := lead_fn .t bf ef cf lf H2 ek ck hR2 g4 hbf hsf (fun s hs => reach_t s (by
      have := (hmf s).1 hs
      rw [if_pos rfl] at this
      subst this; exact ha))
    unfold Pid.ad at hlead
    dsimp only at hlead
    refine yq16 ?_; refine T.condT rfl rfl ?_; refine yq25 ?_; refine sr ?_; refine sm ?_; refine sm ?_; refine sm ?_; refine T.callW Wanted.none rfl rfl hlead zq1 ?_
    rintro _ H3 _ hle3 ⟨b, ek3, ck3, rfl, hS, rfl, hK3⟩
    refine yq0 ?_; refine yq33 ?_; refine yq23 ?_
    refine T.nextP ⟨1, b, H3, ek3, ck3⟩ ⟨Nat.le_refl 1, g2.trans hle3, hS.iff fun t => ?_, hK3⟩ (by dsimp only; omega) zq8 (by repeat (first | exact Sel.refl _ | exact Sel.nil | (refine Sel.cons zq1 ?_) | (refine Sel.app zq1 ?_) | exact Sel.one zq1)) rfl
    dsimp only
    rw [if_neg (by decide)]
    constructor
    · rintro ⟨s, hs, h⟩
      have := (hmf s).1 hs
      rw [if_pos rfl] at this
      subst this
      exact h
    · intro h
      exact ⟨a, (hmf a).2 (by rw [if_pos rfl]), h⟩
  obtain rfl : i = 1 := by omega
  have hmf : ∀ t, t ∈ lf ↔ a < te ∧ t = a + 1 := fun t => (hmf t).trans (by rw [if_neg (by decide)])
  refine yq16 ?_; refine yq22 ?_; refine yq4 ?_; refine T.callW Wanted.none rfl rfl (cloneS_fn bf ef cf H2 hbf) zq1 ?_
  rintro _ H2' _ _ ⟨bo, rfl, hH, rfl⟩
  have hH := hH.symm
  subst hH
  refine yq11 ?_; refine yq4 ?_; refine yq0 ?_; refine T.block ?_; refine T.loopK [(10, Value.map (some bo)), (8, Value.pointer (some { block := bt, off := 0 })), (0, Value.pointer (some { block := br, off := 0 })), (1, Value.pointer (some { block := bs, off := 0 + 1 * 13 }))] zq8 (γ := RpG) (fun g => 1 ≤ g.n ∧ a + g.n ≤ te + 1 ∧ H2.le g.H ∧ SetIn g.H g.bf (fun t => t = a + g.n ∧ t ≤ te) ∧ SetB stV g.eo g.co g.lo ∧ (∀ t, t ∈ g.lo ↔ a < t ∧ t ≤ a + g.n ∧ t ≤ te) ∧ Kn g.H bq bs bt c.rg kind tb te g.ek g.ck) (fun g => [(11, .int .i64 (g.n : Int)), (9, .map (some g.bf))]) (fun g => [(bo, .map g.eo g.co), (bk, .map g.ek g.ck)]) (fun g => g.H) (fun g => (te + 1 - (a + g.n)).toNat) ⟨1, bf, H2, ef, cf, lf, ek, ck⟩ ⟨Nat.le_refl 1, by dsimp only; omega, Hp.le.refl _, ⟨_, _, _, hbf, hsf, fun t => by rw [hmf t]; dsimp only; omega⟩, hsf, fun t => by rw [hmf t]; dsimp only; omega, g4⟩ zq8 (by repeat (first | exact Sel.refl _ | exact Sel.nil | (refine Sel.cons zq1 ?_) | (refine Sel.app zq1 ?_) | exact Sel.one zq1)) rfl ?_
  clear hmf hsf hbf g4 g1 hi
  rintro ⟨n, bf2, H3, eo, co, lo, ek2, ck2⟩ ⟨q1, q2, q3, ⟨ef2, cf2, lf2, hbf, hsf, hmf⟩, q5, q6, q7⟩
  dsimp only at q1 q2 q3 hbf hsf hmf q5 q6 q7 ⊢
  have hR3 := hR2.mono q3
  have hsub3 := hR3.q.sub .r
  unfold Pid.pn Pid.ad encPn pR at hsub3
  dsimp only at hsub3
  refine sq ?_; refine yq4 ?_; refine sv (PV.lenMap un_set rfl hsf (.fro hbf)) ?_
  by_cases hn : a + n ≤ te
  · have hl : 0 < (setK lf2).length := by
      have := (hmf (a + n)).2 ⟨rfl, hn⟩
      unfold setK
      rw [List.length_map]
      exact List.length_pos_of_mem this
    refine sv (PV.gtr rfl rfl) ?_; refine sm ?_; refine T.setT (d := 58) rfl (by omega) ?_; refine gm ?_; refine gv (PV.nilCheck rfl) ?_; refine gf ?_; refine gv (PV.loadSub rfl (by assumption) rfl) ?_; refine gv (PV.lss rfl rfl) ?_; refine gm ?_; refine yq17 ?_; refine yq17 ?_; refine yq17 ?_; refine gv (PV.pickT rfl rfl rfl) ?_; refine sT ?_; refine so ?_; refine T.condT rfl rfl ?_; refine yq25 ?_; refine zs3 ?_; refine T.mkMap Wanted.none rfl ?_
    intro bn
    refine yq11 ?_; refine yq4 ?_; refine T.rangeMap un_set Wanted.none rfl rfl hsf (.fro hbf) ?_
    intro r1 hr1
    refine so ?_; refine T.block ?_; refine T.loopK [(77, Value.pointer (some { block := r1, off := 0 })), (12, Value.map (some bn)), (11, Value.int IntKind.i64 (↑n : Int)), (9, Value.map (some bf2)), (10, Value.map (some bo)), (8, Value.pointer (some { block := bt, off := 0 })), (0, Value.pointer (some { block := br, off := 0 })), (1, Value.pointer (some { block := bs, off := 0 + 1 * 13 }))] zq8 (γ := Rp4) (fun g => H3.le g.H ∧ Rnd stV ef2 cf2 cf2 cf2 g.seen g.left ∧ lf2.Perm (g.done ++ g.left.map (·.1)) ∧ SetB stV g.en g.cn g.ln ∧ (∀ t, t ∈ g.ln ↔ ∃ s ∈ g.done, s < te ∧ t = s + 1) ∧ Kn g.H bq bs bt c.rg kind tb te g.ek g.ck) (fun _ => []) (fun g => [(r1, .mapIter (some bf2) cf2 g.seen cf2), (bn, .map g.en g.cn), (bo, .map eo co), (bk, .map g.ek g.ck)]) (fun g => g.H) (fun g => g.left.length) ⟨#[], setK lf2, [], H3, #[], 0, [], ek2, ck2⟩ ⟨Hp.le.refl _, hr1, by rw [setK_keys]; exact List.Perm.refl _, MapB.empty stV 0, by simp, q7⟩ zq8 (by repeat (first | exact Sel.refl _ | exact Sel.nil | (refine Sel.cons zq1 ?_) | (refine Sel.app zq1 ?_) | exact Sel.one zq1)) rfl ?_
    rintro ⟨seen, left, done, H4, en, cn, ln, ek4, ck4⟩ ⟨p1, p2, p3, p4, p5, p6⟩
    dsimp only at p1 p2 p3 p4 p5 p6 ⊢
    have hR4 := hR3.mono p1
    refine zs3 ?_; refine T.nextMap Wanted.none rfl rfl (.fro (p1 _ _ hbf)) p2 [] rfl ?_ ?_
    · intro hl0
      subst hl0
      rw [List.map_nil, List.append_nil] at p3
      refine T.freezeB (b := bn) zq1 ?_
      intro H5 hle5 hbn
      refine sv (PV.extract rfl rfl) ?_; refine so ?_; refine sq ?_; refine yq22 ?_; refine yq4 ?_; refine sm ?_; refine T.callW Wanted.none rfl rfl (copyS_fn bo bn eo en co cn lo ln H5 q5 p4 hbn) zq1 ?_
      rintro _ H5' _ _ ⟨eo6, co6, lo6, rfl, hH, rfl, hs6, hm6⟩
      have hH := hH.symm
      subst hH
      have hln : ∀ t, t ∈ ln ↔ t = a + ((n + 1 : Nat) : Int) ∧ t ≤ te := fun t => by
        rw [p5 t]
        constructor
        · rintro ⟨s, h1, h2, rfl⟩
          have := (hmf s).1 (p3.mem_iff.2 h1)
          omega
        · rintro ⟨h1, h2⟩
          exact ⟨a + n, p3.mem_iff.1 ((hmf _).2 ⟨rfl, hn⟩), by omega, by omega⟩
      refine zs2 ?_; refine sm ?_; refine yq0 ?_; refine T.blkEnd ?_; refine sr ?_; refine sm ?_; refine sv (PV.add rfl rfl (by omega)) ?_; refine yq0 ?_
      refine T.nextP ⟨n + 1, bn, H5, eo6, co6, lo6, ek4, ck4⟩ ⟨by dsimp only; omega, by dsimp only; omega, (q3.trans p1).trans hle5, ⟨_, _, ln, hbn, p4, hln⟩, hs6, fun t => ?_, p6.mono hle5⟩ (by dsimp only; omega) zq8 (by repeat (first | exact Sel.refl _ | exact Sel.nil | (refine Sel.cons zq1 ?_) | (refine Sel.app zq1 ?_) | exact Sel.one zq1)) rfl
      dsimp only
      rw [hm6 t, q6 t, hln t]
      omega
    · intro s v left' seen' hp p2' hcur
      refine sv (PV.extract rfl rfl) ?_; refine so ?_; refine sq ?_; refine T.condT rfl rfl ?_; refine T.skip ?_; refine T.block ?_; refine zs3 ?_; refine T.pv (PV.entryMap rfl (.fro (p1 _ _ hbf)) p2'.nd hcur zq2) Wanted.none rfl rfl ?_
      have hsm : s ∈ lf2 := p3.mem_iff.2 (List.mem_append_right _ (List.mem_map.2 ⟨_, hp.mem_iff.2 List.mem_cons_self, rfl⟩))
      have hse := (hmf s).1 hsm
      have hre := reach_t s (by omega) H4 ek4 ck4 hR4 p6
      unfold Pid.ad at hre
      dsimp only at hre
      refine sv (PV.extract rfl rfl) ?_; refine sy fun b13 => ?_; refine yq13 ?_; refine sm ?_; refine sm ?_; refine sv (PV.loadAll rfl zq0 (by exact rfl)) ?_; refine T.callW Wanted.none rfl rfl hre zq1 ?_
      rintro _ H5 _ hle5 ⟨b, ek5, ck5, rfl, ⟨er, cr, lr, hb, hsr, hmr⟩, rfl, hK5⟩
      skip
      refine T.rangeMap un_set Wanted.none rfl rfl hsr (.fro hb) ?_
      intro r2 hr2
      refine so ?_; refine T.block ?_; refine T.loopK [(86, Value.pointer (some { block := r2, off := 0 })), (13, Value.pointer (some { block := b13, off := 0 })), (77, Value.pointer (some { block := r1, off := 0 })), (12, Value.map (some bn)), (11, Value.int IntKind.i64 (↑n : Int)), (9, Value.map (some bf2)), (10, Value.map (some bo)), (8, Value.pointer (some { block := bt, off := 0 })), (0, Value.pointer (some { block := br, off := 0 })), (1, Value.pointer (some { block := bs, off := 0 + 1 * 13 }))] zq8 (γ := Rp5) (fun g => Rnd stV er cr cr cr g.seen g.left ∧ lr.Perm (g.done ++ g.left.map (·.1)) ∧ SetB stV g.en g.cn g.ln ∧ (∀ t, t ∈ g.ln ↔ t ∈ ln ∨ t ∈ g.done)) (fun _ => []) (fun g => [(r2, .mapIter (some b) cr g.seen cr), (b13, .cells #[.int .i64 s, .int .i64 0, .int .i64 0, .int .i64 0] 146 (0, 0)), (r1, .mapIter (some bf2) cf2 seen' cf2), (bn, .map g.en g.cn), (bo, .map eo co), (bk, .map ek5 ck5)]) (fun g => H5) (fun g => g.left.length) ⟨#[], setK lr, [], en, cn, ln⟩ ⟨hr2, by rw [setK_keys]; exact List.Perm.refl _, p4, by simp⟩ zq8 (by repeat (first | exact Sel.refl _ | exact Sel.nil | (refine Sel.cons zq1 ?_) | (refine Sel.app zq1 ?_) | exact Sel.one zq1)) rfl ?_
      rintro ⟨seen2, left2, done2, en2, cn2, ln2⟩ ⟨r1', r2', r3', r4'⟩
      dsimp only at r1' r2' r3' r4' ⊢
      refine zs3 ?_; refine T.nextMap Wanted.none rfl rfl (.fro hb) r1' [] rfl ?_ ?_
      · intro hl0
        subst hl0
        rw [List.map_nil, List.append_nil] at r2'
        refine sv (PV.extract rfl rfl) ?_; refine so ?_; refine sq ?_; refine yq22 ?_; refine T.blkEnd ?_
        refine T.nextP ⟨seen', left', done ++ [s], H5, en2, cn2, ln2, ek5, ck5⟩ ⟨p1.trans hle5, p2', perm_step p3 hp, r3', fun t => ?_, hK5⟩ (len_step hp) zq8 (by repeat (first | exact Sel.refl _ | exact Sel.nil | (refine Sel.cons zq1 ?_) | (refine Sel.app zq1 ?_) | exact Sel.one zq1)) rfl
        dsimp only
        rw [r4' t, p5 t, ← r2'.mem_iff, hmr t]
        constructor
        · rintro (⟨x, h1, h2⟩ | h)
          · exact ⟨x, List.mem_append_left _ h1, h2⟩
          · exact ⟨s, by simp, h⟩
        · rintro ⟨x, h1, h2⟩
          rcases List.mem_append.1 h1 with h1 | h1
          · exact .inl ⟨x, h1, h2⟩
          · obtain rfl := List.mem_singleton.1 h1
            exact .inr h2
      · intro t v2 left2' seen2' hp2 r1n hcur2
        have htm : t ∈ lr := r2'.mem_iff.2 (List.mem_append_right _ (List.mem_map.2 ⟨_, hp2.mem_iff.2 List.mem_cons_self, rfl⟩))
        obtain ⟨ht1, ht2⟩ : s < te ∧ t = s + 1 := (hmr t).1 htm
        have hno : decide (t ∈ lo) = false := decide_eq_false fun h => by have := (q6 t).1 h; omega
        refine sv (PV.extract rfl rfl) ?_; refine so ?_; refine sq ?_; refine T.condT rfl rfl ?_; refine T.skip ?_; refine T.block ?_; refine zs3 ?_; refine sv (PV.entryMap rfl (.fro hb) r1n.nd hcur2 zq2) ?_; refine sv (PV.extract rfl rfl) ?_; refine sy fun b14 => ?_; refine yq13 ?_; refine yq6 ?_; refine yq6 ?_; refine sv (PV.gtr rfl rfl) ?_; refine sm ?_; refine T.setT (d := 96) rfl (by omega) ?_; refine gm ?_; refine gv (PV.loadAll rfl zq0 (by exact rfl)) ?_; refine gv (PV.notIn rfl rfl q5 (.own zq2) (of_decide_eq_false hno)) ?_; refine gv (PV.not rfl) ?_; refine sT ?_; refine so ?_; refine T.condT rfl rfl ?_; refine sr ?_; refine sm ?_; refine sv (PV.loadAll rfl zq0 (by exact rfl)) ?_; refine T.putMap (α := Int) un_set (st_key H5) Wanted.none rfl rfl rfl r3' [_, _, _, _] rfl ?_
        intro en3 cn3 hm
        rw [setK_put] at hm
        refine so ?_; refine T.blkEnd ?_
        refine T.nextP ⟨seen2', left2', done2 ++ [t], en3, cn3, addK ln2 t⟩ ⟨r1n, perm_step r2' hp2, hm, fun x => ?_⟩ (len_step hp2) zq8 (by repeat (first | exact Sel.refl _ | exact Sel.nil | (refine Sel.cons zq1 ?_) | (refine Sel.app zq1 ?_) | exact Sel.one zq1)) rfl
        dsimp only
        rw [addK_mem, r4' x, List.mem_append, List.mem_singleton, or_assoc]
  · have hl : (setK lf2).length = 0 := by
      unfold setK
      rw [List.length_map, List.length_eq_zero_iff, List.eq_nil_iff_forall_not_mem]
      intro t ht
      have := (hmf t).1 ht
      omega
    refine sv (PV.gtr rfl rfl) ?_; refine sm ?_; refine T.setF (d := 58) rfl (by omega) ?_; refine yq17 ?_; refine yq17 ?_; refine yq17 ?_; refine su ?_; refine su ?_; refine su ?_; refine su ?_; refine su ?_; refine su ?_; refine sp ?_; refine sF ?_; refine so ?_; refine yq22 ?_; refine yq4 ?_; refine yq0 ?_; refine T.freezeB (b := bo) zq1 ?_
    intro H4 hle4 hbo
    exact T.retW (Lv.finW [(bk, .map ek2 ck2)] zq4 (RV.tmp rfl rfl) ⟨bo, ek2, ck2, rfl, ⟨_, _, lo, hbo, q5, fun t => by rw [q6 t]; omega⟩, rfl, q7.mono hle4⟩)
/-! ### the repetition, the sequence -/
set_option maxHeartbeats 2000000 in
theorem reach_r (a : Int) (ha : 0 ≤ a ∧ a ≤ te) : RchOk c kind bq bs bt br bk tb te .r a := by
  intro H es clock hR hK
  have hrep := repeat_fn a ha H es clock hR hK
  obtain ⟨kks, k1, k2⟩ := hK
  have hr := hR.r
  have hsub := hR.q.sub .r
  unfold stV at hrep ⊢
  unfold Pid.pn Pid.ad encPn pR at hsub
  unfold Pid.ad
  dsimp only at hsub ⊢
  refine FnW.of_T (vs := [.pointer (some ⟨br, 0, none⟩), .pointer (some ⟨bs, 0 + 1 * 13, none⟩), .agg #[.int .i64 a, .int .i64 0, .int .i64 0, .int .i64 0]]) Tryz.func76 rfl rfl fun w => ?_; refine zs3 ?_; (refine T.box Wanted.none rfl rfl zq15 ?_; intro b5); refine yq11 ?_; refine sq ?_; refine yq10 ?_; refine TQ.pv (PV.nilCheck rfl) Wanted.none rfl rfl ?_; refine yq1 ?_; refine TQ.pv (PV.move rfl) Wanted.none rfl rfl ?_; refine TQ.pv (PV.loadAll rfl zq0 (by exact rfl)) Wanted.none rfl rfl ?_; refine TQ.pv (PV.build rfl zq12) Wanted.none rfl rfl ?_
  cases hlk : lookB kks (Pid.r, a) with
  | some v =>
    obtain ⟨b, rfl, hb⟩ := k2 _ _ (lookB_some hlk)
    refine TQ.pv (PV.known1 hR.q (k := (Pid.r, a)) rfl rfl k1 (.own zq2) hlk) Wanted.none rfl rfl ?_; refine TQ.pv (PV.move rfl) Wanted.none rfl rfl ?_; refine TQ.pv (PV.extract rfl rfl) Wanted.none rfl rfl ?_; refine TQ.pv (PV.extract rfl rfl) Wanted.none rfl rfl ?_; refine TQ.pv (PV.assign rfl) Wanted.none rfl rfl ?_; refine yq34 ?_; refine yq4 ?_; refine so ?_; refine T.condT rfl rfl ?_; refine yq4 ?_; refine yq0 ?_
    exact T.retW (Lv.finW _ zq4 (RV.tmp rfl rfl) ⟨b, es, clock, rfl, hb, rfl, kks, k1, k2⟩)
  | none =>
    refine TQ.pv (PV.known0 hR.q (k := (Pid.r, a)) rfl rfl k1 (.own zq2) hlk) Wanted.none rfl rfl ?_; refine TQ.pv (PV.move rfl) Wanted.none rfl rfl ?_; refine TQ.pv (PV.extract rfl rfl) Wanted.none rfl rfl ?_; refine TQ.pv (PV.extract rfl rfl) Wanted.none rfl rfl ?_; refine TQ.pv (PV.assign rfl) Wanted.none rfl rfl ?_; refine yq34 ?_; refine yq4 ?_; refine so ?_; refine yq7 ?_; refine zs3 ?_; refine T.mkMap Wanted.none rfl ?_
    intro bo
    refine yq11 ?_; refine yq4 ?_; refine sv (PV.nilCheck rfl) ?_; refine sf ?_; refine sv (PV.loadSub rfl (by assumption) rfl) ?_; refine so ?_; refine T.block ?_; refine zs3 ?_; refine yq32 ?_; refine T.condF rfl rfl ?_; refine sq ?_; refine zs3 ?_; refine yq32 ?_; refine T.condF rfl rfl ?_; refine sr ?_; refine yq32 ?_; refine T.condF rfl rfl ?_; refine zs3 ?_; refine yq32 ?_; refine T.condF rfl rfl ?_; refine zs3 ?_; refine yq32 ?_; refine T.condF rfl rfl ?_; refine sr ?_; refine sm ?_; refine sm ?_; refine sv (PV.loadAll rfl zq0 (by exact rfl)) ?_
    refine T.callW Wanted.none rfl rfl hrep zq1 ?_
    rintro _ H1 _ hle1 ⟨b, ek, ck, rfl, hS, rfl, hK1⟩
    obtain ⟨kks1, m1, m2⟩ := hK1
    have hR1 := hR.mono hle1
    have hr1 := hR1.r
    refine yq0 ?_; refine T.blkEnd ?_; refine sq ?_; refine T.regionT 8 (by kernel_rfl) ?_; refine TQ.pv (PV.move rfl) Wanted.none rfl rfl ?_; refine TQ.pv (PV.nilCheck rfl) Wanted.none rfl rfl ?_; refine yq1 ?_; refine TQ.pv (PV.move rfl) Wanted.none rfl rfl ?_; refine TQ.pv (PV.loadAll rfl zq0 (by exact rfl)) Wanted.none rfl rfl ?_; refine TQ.pv (PV.build rfl zq12) Wanted.none rfl rfl ?_; refine TQ.pv (PV.move rfl) Wanted.none rfl rfl ?_; refine TQ.nil ?_; refine T.putMap (a := (Pid.r, a)) un_known (ky_key hR1.q) Wanted.none rfl rfl rfl m1 [] rfl ?_
    intro es2 ck2 hm2
    refine zs1 ?_; refine sm ?_; refine yq0 ?_
    exact T.retW (Lv.finW [(bk, .map es2 ck2)] zq4 (RV.tmp rfl rfl) ⟨b, es2, ck2, rfl, hS, rfl, Kn.put m2 hS hm2⟩)
end

end Go.Proofs.YtbcadnjfegiakaaGreatDoor
namespace Go.Proofs.YtbcadnjfegiakaaGreatDoor
open Go.RowKit


structure RsG where
  i : Nat
  bo : Nat
  H : Hp
  ek : Array MapEntry
  ck : Nat
/-- the states behind the first i parts -/
def Sq (rg : List Rg) (kind : ByteArray) (tb te a : Int) (i : Nat) (t : Int) : Prop :=
  if i = 0 then t = a else if i = 1 then anB rg kind tb te a = true ∧ t = a else if i = 2 then anB rg kind tb te a = true ∧ a < t ∧ t ≤ te else Dn rg kind tb te .s a t
section
variable {c : Cp} {kind : ByteArray} {bq bs bt br bk : Nat} {tb te : Int}
theorem sq_0 {rg : List Rg} {a t : Int} : Sq rg kind tb te a 0 t ↔ t = a := by unfold Sq; simp
theorem sq_1 {rg : List Rg} {a t : Int} : Sq rg kind tb te a 1 t ↔ anB rg kind tb te a = true ∧ t = a := by unfold Sq; simp
theorem sq_2 {rg : List Rg} {a t : Int} : Sq rg kind tb te a 2 t ↔ anB rg kind tb te a = true ∧ a < t ∧ t ≤ te := by unfold Sq; simp
theorem sq_3 {rg : List Rg} {a t : Int} : Sq rg kind tb te a 3 t ↔ Dn rg kind tb te .s a t := by unfold Sq; simp
set_option maxHeartbeats 4000000 in
theorem reach_s (a : Int) (ha : 0 ≤ a ∧ a ≤ te) : RchOk c kind bq bs bt br bk tb te .s a := by
  intro H es clock hR hK
  have hK0 := hK
  obtain ⟨kks, k1, k2⟩ := hK
  have hr := hR.r
  have hsub := hR.q.sub .s
  unfold stV
  unfold Pid.pn Pid.ad encPn pS at hsub
  unfold Pid.ad
  dsimp only at hsub ⊢
  refine FnW.of_T (vs := [.pointer (some ⟨br, 0, none⟩), .pointer (some ⟨bq, 0, none⟩), .agg #[.int .i64 a, .int .i64 0, .int .i64 0, .int .i64 0]]) Tryz.func76 rfl rfl fun w => ?_; refine zs3 ?_; (refine T.box Wanted.none rfl rfl zq15 ?_; intro b5); refine yq11 ?_; refine sq ?_; refine yq10 ?_; refine TQ.pv (PV.nilCheck rfl) Wanted.none rfl rfl ?_; refine yq1 ?_; refine TQ.pv (PV.move rfl) Wanted.none rfl rfl ?_; refine TQ.pv (PV.loadAll rfl zq0 (by exact rfl)) Wanted.none rfl rfl ?_; refine TQ.pv (PV.build rfl zq12) Wanted.none rfl rfl ?_
  cases hlk : lookB kks (Pid.s, a) with
  | some v =>
    obtain ⟨b, rfl, hb⟩ := k2 _ _ (lookB_some hlk)
    refine TQ.pv (PV.known1 hR.q (k := (Pid.s, a)) rfl rfl k1 (.own zq2) hlk) Wanted.none rfl rfl ?_; refine TQ.pv (PV.move rfl) Wanted.none rfl rfl ?_; refine TQ.pv (PV.extract rfl rfl) Wanted.none rfl rfl ?_; refine TQ.pv (PV.extract rfl rfl) Wanted.none rfl rfl ?_; refine TQ.pv (PV.assign rfl) Wanted.none rfl rfl ?_; refine yq34 ?_; refine yq4 ?_; refine so ?_; refine T.condT rfl rfl ?_; refine yq4 ?_; refine yq0 ?_
    exact T.retW (Lv.finW _ zq4 (RV.tmp rfl rfl) ⟨b, es, clock, rfl, hb, rfl, kks, k1, k2⟩)
  | none =>
    refine TQ.pv (PV.known0 hR.q (k := (Pid.s, a)) rfl rfl k1 (.own zq2) hlk) Wanted.none rfl rfl ?_; refine TQ.pv (PV.move rfl) Wanted.none rfl rfl ?_; refine TQ.pv (PV.extract rfl rfl) Wanted.none rfl rfl ?_; refine TQ.pv (PV.extract rfl rfl) Wanted.none rfl rfl ?_; refine TQ.pv (PV.assign rfl) Wanted.none rfl rfl ?_; refine yq34 ?_; refine yq4 ?_; refine so ?_; refine yq7 ?_; refine zs3 ?_; refine T.mkMap Wanted.none rfl ?_
    intro bo0
    refine yq11 ?_; refine yq4 ?_; refine sv (PV.nilCheck rfl) ?_; refine sf ?_; refine sv (PV.loadSub rfl (by assumption) rfl) ?_; refine so ?_; refine T.block ?_; refine zs3 ?_; refine yq32 ?_; refine T.condF rfl rfl ?_; refine sq ?_; refine zs3 ?_; refine yq32 ?_; refine T.condF rfl rfl ?_; refine sr ?_; refine yq32 ?_; refine T.condF rfl rfl ?_; refine zs3 ?_; refine yq32 ?_; refine T.condT rfl rfl ?_; refine yq4 ?_; refine sv (PV.loadAll rfl zq0 (by exact rfl)) ?_; refine T.putMap (α := Int) un_set (st_key H) Wanted.none rfl rfl rfl (MapB.empty stV 0) [] rfl ?_
    intro es1 ck1 hm1
    rw [show ([] : Kvs Int) = setK [] from rfl, setK_put] at hm1
    refine T.freezeB (b := bo0) zq1 ?_
    intro H1 hle1 hbo0
    have hR1 := hR.mono hle1
    have hsub1 := hR1.q.sub .s
    unfold Pid.pn Pid.ad encPn pS at hsub1
    dsimp only at hsub1
    refine zs1 ?_; refine sm ?_; refine sv (PV.nilCheck rfl) ?_; refine sf ?_; refine sv (PV.loadSub rfl (by assumption) rfl) ?_; refine sv (PV.lenSl rfl) ?_; refine yq35 ?_; refine T.loopK [(71, Value.int IntKind.i64 (↑3 : Int)), (5, Value.pointer (some { block := b5, off := 0 })), (0, Value.pointer (some { block := br, off := 0 })), (1, Value.pointer (some { block := bq, off := 0 }))] zq8 (γ := RsG) (fun g => g.i ≤ 3 ∧ H1.le g.H ∧ SetIn g.H g.bo (Sq c.rg kind tb te a g.i) ∧ Kn g.H bq bs bt c.rg kind tb te g.ek g.ck) (fun g => [(72, .int .i64 (g.i : Int)), (9, .map (some g.bo))]) (fun g => [(b5, .cells #[.int .i64 a, .int .i64 0, .int .i64 0, .int .i64 0] 146 (0, 0)), (bk, .map g.ek g.ck)]) (fun g => g.H) (fun g => 3 - g.i) ⟨0, bo0, H1, es, clock⟩ ⟨Nat.zero_le _, Hp.le.refl _, ⟨_, _, _, hbo0, hm1, fun t => by rw [addK_mem, sq_0]; simp⟩, hK0.mono hle1⟩ zq8 (by repeat (first | exact Sel.refl _ | exact Sel.nil | (refine Sel.cons zq1 ?_) | (refine Sel.app zq1 ?_) | exact Sel.one zq1)) rfl ?_
    rintro ⟨i, bo, H2, ek, ck⟩ ⟨g1, g2, ⟨ef, cf, lf, hbf, hsf, hmf⟩, g4⟩
    dsimp only at g1 g2 hbf hsf hmf g4 ⊢
    have hR2 := hR1.mono g2
    have hsub2 := hR2.q.sub .s
    unfold Pid.pn Pid.ad encPn pS at hsub2
    dsimp only at hsub2
    by_cases hi : i < 3
    · have h012 : i = 0 ∨ i = 1 ∨ i = 2 := by omega
      rcases h012 with rfl | rfl | rfl
      · have hlead := lead_fn .b bo ef cf lf H2 ek ck hR2 g4 hbf hsf (fun s _ => reach_b s)
        unfold Pid.ad at hlead
        dsimp only at hlead
        refine yq16 ?_; refine T.condT rfl rfl ?_; refine yq25 ?_; refine yq4 ?_; refine sa ?_; refine zs2 ?_; refine sm ?_; refine sm ?_; refine sv (PV.nilCheck rfl) ?_; refine sf ?_; refine sv (PV.loadSub rfl (by assumption) rfl) ?_; refine sm ?_; refine sv (PV.indexAddr rfl rfl (by omega)) ?_; refine sm ?_; refine T.callW Wanted.none rfl rfl hlead zq1 ?_
        rintro _ H3 _ hle3 ⟨b, ek3, ck3, rfl, hS, rfl, hK3⟩
        refine yq0 ?_; refine yq33 ?_; refine yq23 ?_
        refine T.nextP ⟨1, b, H3, ek3, ck3⟩ ⟨by dsimp only; omega, g2.trans hle3, hS.iff fun t => ?_, hK3⟩ (by dsimp only; omega) zq8 (by repeat (first | exact Sel.refl _ | exact Sel.nil | (refine Sel.cons zq1 ?_) | (refine Sel.app zq1 ?_) | exact Sel.one zq1)) rfl
        rw [sq_1]
        constructor
        · rintro ⟨s, hs, h1, h2⟩
          obtain rfl := sq_0.1 ((hmf s).1 hs)
          exact ⟨h1, h2⟩
        · rintro ⟨h1, h2⟩
          exact ⟨a, (hmf a).2 (sq_0.2 rfl), h1, h2⟩
      · have hlead := lead_fn .r bo ef cf lf H2 ek ck hR2 g4 hbf hsf (fun s hs => reach_r s (by
          obtain ⟨_, rfl⟩ := sq_1.1 ((hmf s).1 hs)
          exact ha))
        unfold Pid.ad at hlead
        dsimp only at hlead
        refine yq16 ?_; refine T.condT rfl rfl ?_; refine yq25 ?_; refine yq4 ?_; refine sa ?_; refine zs2 ?_; refine sm ?_; refine sm ?_; refine sv (PV.nilCheck rfl) ?_; refine sf ?_; refine sv (PV.loadSub rfl (by assumption) rfl) ?_; refine sm ?_; refine sv (PV.indexAddr rfl rfl (by omega)) ?_; refine sm ?_; refine T.callW Wanted.none rfl rfl hlead zq1 ?_
        rintro _ H3 _ hle3 ⟨b, ek3, ck3, rfl, hS, rfl, hK3⟩
        refine yq0 ?_; refine yq33 ?_; refine yq23 ?_
        refine T.nextP ⟨2, b, H3, ek3, ck3⟩ ⟨by dsimp only; omega, g2.trans hle3, hS.iff fun t => ?_, hK3⟩ (by dsimp only; omega) zq8 (by repeat (first | exact Sel.refl _ | exact Sel.nil | (refine Sel.cons zq1 ?_) | (refine Sel.app zq1 ?_) | exact Sel.one zq1)) rfl
        rw [sq_2]
        constructor
        · rintro ⟨s, hs, h1, h2⟩
          obtain ⟨h3, rfl⟩ := sq_1.1 ((hmf s).1 hs)
          exact ⟨h3, h1, h2⟩
        · rintro ⟨h1, h2, h3⟩
          exact ⟨a, (hmf a).2 (sq_1.2 ⟨h1, rfl⟩), h2, h3⟩
      · have hlead := lead_fn .e bo ef cf lf H2 ek ck hR2 g4 hbf hsf (fun s _ => reach_e s)
        unfold Pid.ad at hlead
        dsimp only at hlead
        refine yq16 ?_; refine T.condT rfl rfl ?_; refine yq25 ?_; refine yq4 ?_; refine sa ?_; refine zs2 ?_; refine sm ?_; refine sm ?_; refine sv (PV.nilCheck rfl) ?_; refine sf ?_; refine sv (PV.loadSub rfl (by assumption) rfl) ?_; refine sm ?_; refine sv (PV.indexAddr rfl rfl (by omega)) ?_; refine sm ?_; refine T.callW Wanted.none rfl rfl hlead zq1 ?_
        rintro _ H3 _ hle3 ⟨b, ek3, ck3, rfl, hS, rfl, hK3⟩
        refine yq0 ?_; refine yq33 ?_; refine yq23 ?_
        refine T.nextP ⟨3, b, H3, ek3, ck3⟩ ⟨by dsimp only; omega, g2.trans hle3, hS.iff fun t => ?_, hK3⟩ (by dsimp only; omega) zq8 (by repeat (first | exact Sel.refl _ | exact Sel.nil | (refine Sel.cons zq1 ?_) | (refine Sel.app zq1 ?_) | exact Sel.one zq1)) rfl
        rw [sq_3]
        constructor
        · rintro ⟨s, hs, h1, rfl⟩
          obtain ⟨h3, h4, h5⟩ := sq_2.1 ((hmf t).1 hs)
          exact ⟨h3, h4, h5, h1⟩
        · rintro ⟨h1, h2, h3, h4⟩
          exact ⟨t, (hmf t).2 (sq_2.2 ⟨h1, h2, h3⟩), h4, rfl⟩
    · obtain rfl : i = 3 := by omega
      obtain ⟨kks2, m1, m2⟩ := g4
      have hr2 := hR2.r
      have hS : SetIn H2 bo (Dn c.rg kind tb te .s a) := ⟨ef, cf, lf, hbf, hsf, fun t => (hmf t).trans sq_3⟩
      refine yq16 ?_; refine yq22 ?_; refine T.blkEnd ?_; refine sq ?_; refine T.regionT 8 (by kernel_rfl) ?_; refine TQ.pv (PV.move rfl) Wanted.none rfl rfl ?_; refine TQ.pv (PV.nilCheck rfl) Wanted.none rfl rfl ?_; refine yq1 ?_; refine TQ.pv (PV.move rfl) Wanted.none rfl rfl ?_; refine TQ.pv (PV.loadAll rfl zq0 (by exact rfl)) Wanted.none rfl rfl ?_; refine TQ.pv (PV.build rfl zq12) Wanted.none rfl rfl ?_; refine TQ.pv (PV.move rfl) Wanted.none rfl rfl ?_; refine TQ.nil ?_; refine T.putMap (a := (Pid.s, a)) un_known (ky_key hR2.q) Wanted.none rfl rfl rfl m1 [_] rfl ?_
      intro es2 ck2 hm2
      refine zs1 ?_; refine sm ?_; refine yq0 ?_
      exact T.retW (Lv.finW [(bk, .map es2 ck2)] zq4 (RV.tmp rfl rfl) ⟨bo, es2, ck2, rfl, hS, rfl, Kn.put m2 hS hm2⟩)
end

end Go.Proofs.YtbcadnjfegiakaaGreatDoor
