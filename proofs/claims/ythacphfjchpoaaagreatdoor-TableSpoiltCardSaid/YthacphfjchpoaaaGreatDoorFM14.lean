/- made corpora: Concat. -/
import Derived.Test.YthacphfjchpoaaaGreatDoorG8
namespace Go.Proofs.YthacphfjchpoaaaGreatDoor
open Go.RowKit

/-- small enough, and in range -/
structure CpS (c : Cp) : Prop where
  la : c.att.length ≤ 200
  lt : c.tk.length ≤ 200
  lx : c.tx.length ≤ 200
  lr : c.rg.length ≤ 200
  ln : c.nd.length ≤ 200
  lh : c.hd.length ≤ 200
  ls : c.rl.length ≤ 200
  bx : ∀ r ∈ c.tx, 0 ≤ r.b ∧ r.b ≤ 1000 ∧ 0 ≤ r.e ∧ r.e ≤ 1000
  br : ∀ r ∈ c.rg, 0 ≤ r.b ∧ r.b ≤ 1000 ∧ 0 ≤ r.e ∧ r.e ≤ 1000
  bn : nodesOk 1000 c.nd
def cp0 : Cp := ⟨.slice none 0 0, [], .slice none 0 0, [], .slice none 0 0, [], .slice none 0 0, [], .slice none 0 0, [], .slice none 0 0, [], .slice none 0 0, []⟩
theorem cp0_ok (H : Hp) : CpL H cp0 :=
  ⟨SlR.empty, SlR.empty, ⟨SlR.empty, (fun r hr => by cases hr)⟩, ⟨SlR.empty, (fun r hr => by cases hr)⟩, SlR.empty, SlR.empty, SlR.empty, (fun t ht => by cases ht), Nat.zero_le _, Nat.zero_le _, Nat.zero_le _, Nat.zero_le _, Nat.zero_le _, Nat.zero_le _, Nat.zero_le _⟩
set_option maxHeartbeats 8000000 in
theorem concat_fn (a b : Cp) (H : Hp) (ha : CpL H a) (hb : CpL H b) (hsa : CpS a) (hsb : CpS b) :
    Fn Tryz.prog 30 #[cpV a, cpV b] H (fun u H' => ∃ c e, u = .tuple #[cpV c, .int .i64 e] ∧ CpL H' c ∧ (e = 0 → CatR a b c)) := by
  obtain ⟨aa, ca, at1, ct, ax, cx, ar, cr, an, cn, ah, ch, as1, cs, hca, oa⟩ := ha.openO
  obtain ⟨aa9, ca9, at9, ct9, ax9, cx9, ar9, cr9, an9, cn9, ah9, ch9, as9, cs9, hcb, ob⟩ := hb.openO
  obtain ⟨a1, a2, a3, a4, a5, a6, a7, a8, a9, a10⟩ := hsa
  obtain ⟨s1, s2, s3, s4, s5, s6, s7, s8, s9, s10⟩ := hsb
  rw [hca, hcb]
  refine Fn.of_T (vs := [.agg #[.slice aa a.att.length ca, .slice at1 a.tk.length ct, .slice ax a.tx.length cx, .slice ar a.rg.length cr, .slice an a.nd.length cn, .slice ah a.hd.length ch, .slice as1 a.rl.length cs], .agg #[.slice aa9 b.att.length ca9, .slice at9 b.tk.length ct9, .slice ax9 b.tx.length cx9, .slice ar9 b.rg.length cr9, .slice an9 b.nd.length cn9, .slice ah9 b.hd.length ch9, .slice as9 b.rl.length cs9]]) Tryz.func30 rfl rfl fun w => ?_; refine zs3 ?_; (refine T.box Wanted.none rfl rfl zq15 ?_; intro b2); (refine T.box Wanted.none rfl rfl zq15 ?_; intro b3); refine sy fun b4 => ?_; refine yq0 ?_; refine T.freezeB (b := b2) zq1 ?_
  intro H1 hle1 hb2
  refine T.freezeB (b := b3) zq1 ?_
  intro H2 hle2 hb3
  have hb2 := hle2 _ _ hb2
  have hleA := hle1.trans hle2
  have oa := oa.mono hleA
  have ob := ob.mono hleA
  have hva := valid_fn a H2 (ha.mono hleA) _ a10
  have hvb := valid_fn b H2 (hb.mono hleA) _ s10
  have hfi := fun s => findText_fn a s H2 (ha.mono hleA)
  rw [hca] at hva hfi
  rw [hcb] at hvb
  (repeat refine sq ?_)
  refine T.cutB [(4, Value.pointer (some { block := b4, off := 0 })), (3, Value.pointer (some { block := b3, off := 0 })), (2, Value.pointer (some { block := b2, off := 0 }))] 27 ?_ fun K => ?_
  rotate_left
  · refine sr ?_; refine sv (PV.loadAll rfl zq0 (by exact rfl)) ?_; (refine T.callX Wanted.none rfl rfl hva ?_; rintro _ ⟨b21, rfl⟩); refine yq107 ?_
    refine T.splitB (d := 23) rfl (fun h0 => ?_) (fun h0 => ?_)
    · refine yq8 ?_; refine sp ?_; refine sT ?_; refine so ?_; (exact K _ _ _ zq8 (by repeat (first | exact Sel.refl _ | exact Sel.nil | (refine Sel.cons zq1 ?_) | (refine Sel.app zq1 ?_) | exact Sel.one zq1)))
    · refine gv (PV.loadAll rfl zq0 (by exact rfl)) ?_; (refine T.callX (Wanted.guard rfl rfl rfl) rfl rfl hvb ?_; rintro _ ⟨b25, rfl⟩); refine gv (PV.not rfl) ?_; refine sF ?_; refine so ?_; (exact K _ _ _ zq8 (by repeat (first | exact Sel.refl _ | exact Sel.nil | (refine Sel.cons zq1 ?_) | (refine Sel.app zq1 ?_) | exact Sel.one zq1)))
  intro q1
  skip
  refine T.cond rfl (fun hc0 => ?_) (fun hc0 => ?_)
  · refine yq163 ?_; refine yq54 ?_
    exact T.retF (Lv.fin (RV.ct rfl (CV.agg rfl zq0 (by exact rfl)) rfl) ⟨cp0, _, rfl, cp0_ok _, fun h => absurd h (by decide)⟩)
  refine T.skip ?_; refine yq73 ?_; refine yq5 ?_; (refine T.callX Wanted.none rfl rfl (sameAtt_fn a.att b.att _ _ H2 oa.a ob.a (by omega)) ?_; rintro _ ⟨b33, rfl⟩); refine sv (PV.not rfl) ?_; refine so ?_
  refine T.cond rfl (fun hc1 => ?_) (fun hc1 => ?_)
  · refine yq163 ?_; refine yq54 ?_
    exact T.retF (Lv.fin (RV.ct rfl (CV.agg rfl zq0 (by exact rfl)) rfl) ⟨cp0, _, rfl, cp0_ok _, fun h => absurd h (by decide)⟩)
  refine T.skip ?_; refine yq129 ?_; refine yq80 ?_; refine T.loopR [(38, Value.int IntKind.i64 (↑b.tx.length : Int)), (37, Value.slice ax9 b.tx.length cx9), (4, Value.pointer (some { block := b4, off := 0 })), (3, Value.pointer (some { block := b3, off := 0 })), (2, Value.pointer (some { block := b2, off := 0 }))] zq8 39 b.tx.length rfl ?_
  intro i hi0
  by_cases hi : i < b.tx.length
  · obtain ⟨bx, off, x, rfl, hix, hsub⟩ := RowL.get encRg_len ob.x.1 hi
    unfold encRg at hsub
    obtain ⟨am, cm, hmv⟩ := (ob.x.2 x (List.mem_of_getElem? hix)).1.len
    rw [hmv] at hsub
    refine yq110 ?_; refine sy fun b7 => ?_; refine yq10 ?_; refine sv (PV.loadAll rfl zq0 (by exact rfl)) ?_; refine yq5 ?_; (refine T.callX Wanted.none rfl rfl (hfi _) ?_; rintro _ ⟨n46, rfl⟩); refine sv (PV.geq rfl rfl) ?_; refine so ?_
    refine T.condD rfl (fun hc2 => ?_) (fun hc2 => ?_)
    · refine yq163 ?_; refine yq54 ?_
      exact T.retF (Lv.fin (RV.ct rfl (CV.agg rfl zq0 (by exact rfl)) rfl) ⟨cp0, _, rfl, cp0_ok _, fun h => absurd h (by decide)⟩)
    · refine T.skip ?_; refine yq61 ?_
      exact T.nextR (by omega) rfl zq8 (by repeat (first | exact Sel.refl _ | exact Sel.nil | (refine Sel.cons zq1 ?_) | (refine Sel.app zq1 ?_) | exact Sel.one zq1))
  refine yq74 ?_; refine sq ?_; refine yq91 ?_; refine TQ.pv (PV.lenSl rfl) Wanted.none rfl rfl ?_; refine yq6 ?_; refine TQ.pv (PV.lenSl rfl) Wanted.none rfl rfl ?_; refine TQ.pv (PV.assign rfl) Wanted.none rfl rfl ?_; refine yq188 ?_
  (repeat refine sq ?_)
  refine T.cutB [(9, Value.int IntKind.i64 (↑a.nd.length : Int)), (8, Value.int IntKind.i64 (↑a.tk.length : Int)), (4, Value.pointer (some { block := b4, off := 0 })), (3, Value.pointer (some { block := b3, off := 0 })), (2, Value.pointer (some { block := b2, off := 0 }))] 89 ?_ fun K => ?_
  rotate_left
  · refine yq81 ?_; refine yq106 ?_; refine sv (PV.add rfl rfl (by omega)) ?_; refine sv (PV.gtr rfl rfl) ?_; refine sm ?_; refine T.setF (d := 62) rfl (by omega) ?_; refine yq96 ?_; refine yq96 ?_; refine gv (PV.add rfl rfl (by omega)) ?_; refine gv (PV.gtr rfl rfl) ?_; refine yq90 ?_
    refine T.splitD (d := 72) rfl (fun h0 => ?_) (fun h0 => ?_)
    · refine yq66 ?_; refine yq66 ?_; refine yq141 ?_; refine yq149 ?_; refine sT ?_; refine so ?_; (exact K _ _ _ zq8 (by repeat (first | exact Sel.refl _ | exact Sel.nil | (refine Sel.cons zq1 ?_) | (refine Sel.app zq1 ?_) | exact Sel.one zq1)))
    · refine yq96 ?_; refine yq96 ?_; refine gv (PV.add rfl rfl (by omega)) ?_; refine gv (PV.gtr rfl rfl) ?_; refine yq90 ?_; refine T.setF (d := 82) rfl (by omega) ?_; refine gm ?_; refine yq96 ?_; refine gv (PV.add rfl rfl (by omega)) ?_; refine gv (PV.gtr rfl rfl) ?_; refine sF ?_; refine so ?_; (exact K _ _ _ zq8 (by repeat (first | exact Sel.refl _ | exact Sel.nil | (refine Sel.cons zq1 ?_) | (refine Sel.app zq1 ?_) | exact Sel.one zq1)))
  intro q2
  skip
  refine T.cond rfl (fun hc3 => ?_) (fun hc3 => ?_)
  · refine yq163 ?_; refine yq54 ?_
    exact T.retF (Lv.fin (RV.ct rfl (CV.agg rfl zq0 (by exact rfl)) rfl) ⟨cp0, _, rfl, cp0_ok _, fun h => absurd h (by decide)⟩)
  clear hva hvb hfi hi
  refine T.skip ?_; refine yq41 ?_; (refine T.appendP (lv := []) Wanted.none rfl rfl rfl (Vec.nil 84 2) (oa.a.src) (RowL.one fun x _ => one_encAt x) (by omega) zq1 ?_; intro v93 lv93 hv93 _; obtain ⟨ad93, cap93, rfl⟩ := hv93.val); refine sv (PV.build rfl zq12) ?_; refine sy fun b10 => ?_; refine yq13 ?_; refine T.freezeP (lv := lv93) hv93 zq1 ?_
  intro H3 hle3 hs93
  have hb2 := hle3 _ _ hb2
  have hb3 := hle3 _ _ hb3
  have oa := oa.mono hle3
  have ob := ob.mono hle3
  (repeat refine sq ?_)
  refine T.regionS [] 7 (by kernel_rfl) ?_; refine yq43 ?_; refine yq45 ?_
  refine TS.ways [2] (by kernel_rfl) rfl zq18 ⟨⟨_, rfl, ?_⟩, trivial⟩
  (refine T.appendP (lv := []) Wanted.none rfl rfl rfl (Vec.nil 30 1) (oa.t.src) (RowL.one fun x hx => one_encTk (oa.tO x hx)) (by omega) zq1 ?_; intro v97 lv97 hv97 _; obtain ⟨ad97, cap97, rfl⟩ := hv97.val); refine yq24 ?_
  refine TS.ways [5] (by kernel_rfl) rfl zq18 ⟨⟨_, rfl, ?_⟩, trivial⟩
  (refine T.appendP (lv := lv97) Wanted.none rfl rfl rfl hv97 (ob.t.src) (RowL.one fun x hx => one_encTk (ob.tO x hx)) (by omega) zq1 ?_; intro v100 lv100 hv100 _; obtain ⟨ad100, cap100, rfl⟩ := hv100.val); refine yq194 ?_
  refine TS.ways [7] (by kernel_rfl) rfl zq18 ⟨⟨_, rfl, ?_⟩, trivial⟩
  refine yq120 ?_; refine T.freezeP (lv := lv100) hv100 zq1 ?_
  intro H4 hleH4 hs100
  have hb2 := hleH4 _ _ hb2
  have hb3 := hleH4 _ _ hb3
  have oa := oa.mono hleH4
  have ob := ob.mono hleH4
  have hs93 := hs93.mono hleH4
  (repeat refine sq ?_)
  refine T.regionS [] 7 (by kernel_rfl) ?_; refine yq43 ?_; refine yq45 ?_
  refine TS.ways [2] (by kernel_rfl) rfl zq18 ⟨⟨_, rfl, ?_⟩, trivial⟩
  (refine T.appendP (lv := []) Wanted.none rfl rfl rfl (Vec.nil 71 4) (oa.x.1.src) (RowL.one fun x hx => one_encRg (oa.x.2 x hx)) (by omega) zq1 ?_; intro v104 lv104 hv104 _; obtain ⟨ad104, cap104, rfl⟩ := hv104.val); refine yq24 ?_
  refine TS.ways [5] (by kernel_rfl) rfl zq18 ⟨⟨_, rfl, ?_⟩, trivial⟩
  (refine T.appendP (lv := lv104) Wanted.none rfl rfl rfl hv104 (ob.x.1.src) (RowL.one fun x hx => one_encRg (ob.x.2 x hx)) (by omega) zq1 ?_; intro v107 lv107 hv107 _; obtain ⟨ad107, cap107, rfl⟩ := hv107.val); refine yq194 ?_
  refine TS.ways [7] (by kernel_rfl) rfl zq18 ⟨⟨_, rfl, ?_⟩, trivial⟩
  refine yq120 ?_
  obtain ⟨N5, hN5⟩ : ∃ N, N = 0 + a.tx.length + b.tx.length := ⟨_, rfl⟩
  rw [← hN5] at hv107 ⊢
  have hv107' : Vec 71 4 (.slice ad107 N5 cap107) lv107 N5 ((turned (shR a.tk.length) a.tx b.tx a.tx.length).flatMap encRg) := by
    rw [turned_start, List.flatMap_append]; simpa using hv107
  refine yq129 ?_; refine yq0 ?_; refine T.block ?_; refine T.loopK [(10, Value.pointer (some { block := b10, off := 0 })), (9, Value.int IntKind.i64 (↑a.nd.length : Int)), (8, Value.int IntKind.i64 (↑a.tk.length : Int)), (4, Value.pointer (some { block := b4, off := 0 })), (3, Value.pointer (some { block := b3, off := 0 })), (2, Value.pointer (some { block := b2, off := 0 }))] zq8 (γ := Nat × List (Nat × Obj)) (fun g => a.tx.length ≤ g.1 ∧ g.1 ≤ N5 ∧ Vec 71 4 (.slice ad107 N5 cap107) g.2 N5 ((turned (shR a.tk.length) a.tx b.tx g.1).flatMap encRg)) (fun g => [(11, .int .i64 (g.1 : Int))]) (fun g => g.2 ++ [(b10, .cells #[.slice ad93 (0 + a.att.length) cap93, .slice ad100 (0 + a.tk.length + b.tk.length) cap100, .slice ad107 N5 cap107, .slice none 0 0, .slice none 0 0, .slice none 0 0, .slice none 0 0] 32 (0, 0)), (b4, .cells #[.slice none 0 0, .slice none 0 0, .slice none 0 0, .slice none 0 0, .slice none 0 0, .slice none 0 0, .slice none 0 0] 32 (0, 0))]) (fun _ => H4) (fun g => N5 - g.1) (a.tx.length, lv107) ⟨by simp, by dsimp only; omega, hv107'⟩ zq8 (by repeat (first | exact Sel.refl _ | exact Sel.nil | (refine Sel.cons zq1 ?_) | (refine Sel.app zq1 ?_) | exact Sel.one zq1)) rfl ?_
  rintro ⟨i, lv⟩ ⟨g1, g2, g3⟩
  dsimp only at g1 g2 g3 ⊢
  by_cases hi : i < N5
  · obtain ⟨x, hx⟩ : ∃ x, b.tx[i - a.tx.length]? = some x := ⟨_, List.getElem?_eq_getElem (by omega)⟩
    have hxb := s8 x (List.mem_of_getElem? hx)
    obtain ⟨bv, capv, hve⟩ := g3.ptr (by omega)
    injection hve with e1 e2 e3
    subst e1 e3
    have hta := turned_at (f := shR a.tk.length) g1 hx
    have hld1 : ((turned (shR a.tk.length) a.tx b.tx i).flatMap encRg)[0 + ((i : Nat) : Int).toNat * 4 + 1]? = some (.int .i64 x.b) := rowGet encRg_len hta rfl
    refine yq14 ?_; refine yq106 ?_; refine yq3 ?_; refine yq33 ?_; refine yq41 ?_; refine sm ?_; refine yq111 ?_; refine yq185 ?_; refine yq75 ?_; (refine T.storeVecP (lv := lv) Wanted.none rfl rfl rfl g3 (rowLt encRg_len (by first | (rw [turned_len]; omega) | (rw [List.length_set, turned_len]; omega) | (rw [List.length_set, List.length_set, turned_len]; omega)) (by decide)) zq1 ?_; intro lvh hvh); refine so ?_
    rw [rowSet encRg_len (x' := { x with b := x.b + a.tk.length }) hta (by decide) rfl] at hvh
    have hta2 : ((turned (shR a.tk.length) a.tx b.tx i).set i { x with b := x.b + a.tk.length })[i]? = some { x with b := x.b + a.tk.length } := by rw [List.getElem?_set_self (by rw [turned_len]; omega)]
    have hld2 : (((turned (shR a.tk.length) a.tx b.tx i).set i { x with b := x.b + a.tk.length }).flatMap encRg)[0 + ((i : Nat) : Int).toNat * 4 + 2]? = some (.int .i64 x.e) := rowGet encRg_len hta2 rfl
    clear g3
    refine sr ?_; refine yq5 ?_; refine sm ?_; refine yq111 ?_; refine yq185 ?_; refine yq75 ?_; (refine T.storeVecP (lv := lvh) Wanted.none rfl rfl rfl hvh (rowLt encRg_len (by first | (rw [turned_len]; omega) | (rw [List.length_set, turned_len]; omega) | (rw [List.length_set, List.length_set, turned_len]; omega)) (by decide)) zq1 ?_; intro lvg hvg); refine so ?_; refine T.blkEnd ?_
    rw [rowSet encRg_len (x' := { x with b := x.b + a.tk.length, e := x.e + a.tk.length }) hta2 (by decide) rfl, List.set_set] at hvg
    rw [show { x with b := x.b + a.tk.length, e := x.e + a.tk.length } = shR a.tk.length x from rfl, turned_set g1 hx] at hvg
    refine yq81 ?_; refine yq63 ?_
    exact T.nextP (i + 1, lvg) ⟨by dsimp only; omega, by dsimp only; omega, hvg⟩ (by dsimp only; omega) zq8 (by repeat (first | exact Sel.refl _ | exact Sel.nil | (refine Sel.cons zq1 ?_) | (refine Sel.app zq1 ?_) | exact Sel.one zq1)) rfl
  have hiN : i = a.tx.length + b.tx.length := by omega
  rw [hiN, turned_end] at g3
  refine yq14 ?_; refine yq106 ?_; refine yq3 ?_; refine yq16 ?_; refine T.freezeP (lv := lv) g3 zq1 ?_
  intro H5 hleH5 hsx
  have hb2 := hleH5 _ _ hb2
  have hb3 := hleH5 _ _ hb3
  have oa := oa.mono hleH5
  have ob := ob.mono hleH5
  have hs93 := hs93.mono hleH5
  have hs100 := hs100.mono hleH5
  (repeat refine sq ?_)
  refine T.regionS [] 7 (by kernel_rfl) ?_; refine yq43 ?_; refine yq45 ?_
  refine TS.ways [2] (by kernel_rfl) rfl zq18 ⟨⟨_, rfl, ?_⟩, trivial⟩
  (refine T.appendP (lv := []) Wanted.none rfl rfl rfl (Vec.nil 97 4) (oa.r.1.src) (RowL.one fun x hx => one_encRg (oa.r.2 x hx)) (by omega) zq1 ?_; intro v141 lv141 hv141 _; obtain ⟨ad141, cap141, rfl⟩ := hv141.val); refine yq24 ?_
  refine TS.ways [5] (by kernel_rfl) rfl zq18 ⟨⟨_, rfl, ?_⟩, trivial⟩
  (refine T.appendP (lv := lv141) Wanted.none rfl rfl rfl hv141 (ob.r.1.src) (RowL.one fun x hx => one_encRg (ob.r.2 x hx)) (by omega) zq1 ?_; intro v144 lv144 hv144 _; obtain ⟨ad144, cap144, rfl⟩ := hv144.val); refine yq194 ?_
  refine TS.ways [7] (by kernel_rfl) rfl zq18 ⟨⟨_, rfl, ?_⟩, trivial⟩
  refine yq120 ?_
  obtain ⟨N6, hN6⟩ : ∃ N, N = 0 + a.rg.length + b.rg.length := ⟨_, rfl⟩
  rw [← hN6] at hv144 ⊢
  have hv144' : Vec 97 4 (.slice ad144 N6 cap144) lv144 N6 ((turned (shR a.tk.length) a.rg b.rg a.rg.length).flatMap encRg) := by
    rw [turned_start, List.flatMap_append]; simpa using hv144
  refine yq129 ?_; refine yq0 ?_; refine T.block ?_; refine T.loopK [(10, Value.pointer (some { block := b10, off := 0 })), (9, Value.int IntKind.i64 (↑a.nd.length : Int)), (8, Value.int IntKind.i64 (↑a.tk.length : Int)), (4, Value.pointer (some { block := b4, off := 0 })), (3, Value.pointer (some { block := b3, off := 0 })), (2, Value.pointer (some { block := b2, off := 0 }))] zq8 (γ := Nat × List (Nat × Obj)) (fun g => a.rg.length ≤ g.1 ∧ g.1 ≤ N6 ∧ Vec 97 4 (.slice ad144 N6 cap144) g.2 N6 ((turned (shR a.tk.length) a.rg b.rg g.1).flatMap encRg)) (fun g => [(12, .int .i64 (g.1 : Int))]) (fun g => g.2 ++ [(b10, .cells #[.slice ad93 (0 + a.att.length) cap93, .slice ad100 (0 + a.tk.length + b.tk.length) cap100, .slice ad107 N5 cap107, .slice ad144 N6 cap144, .slice none 0 0, .slice none 0 0, .slice none 0 0] 32 (0, 0)), (b4, .cells #[.slice none 0 0, .slice none 0 0, .slice none 0 0, .slice none 0 0, .slice none 0 0, .slice none 0 0, .slice none 0 0] 32 (0, 0))]) (fun _ => H5) (fun g => N6 - g.1) (a.rg.length, lv144) ⟨by simp, by dsimp only; omega, hv144'⟩ zq8 (by repeat (first | exact Sel.refl _ | exact Sel.nil | (refine Sel.cons zq1 ?_) | (refine Sel.app zq1 ?_) | exact Sel.one zq1)) rfl ?_
  rintro ⟨i, lv⟩ ⟨g1, g2, g3⟩
  dsimp only at g1 g2 g3 ⊢
  by_cases hi : i < N6
  · obtain ⟨x, hx⟩ : ∃ x, b.rg[i - a.rg.length]? = some x := ⟨_, List.getElem?_eq_getElem (by omega)⟩
    have hxb := s9 x (List.mem_of_getElem? hx)
    obtain ⟨bv, capv, hve⟩ := g3.ptr (by omega)
    injection hve with e1 e2 e3
    subst e1 e3
    have hta := turned_at (f := shR a.tk.length) g1 hx
    have hld1 : ((turned (shR a.tk.length) a.rg b.rg i).flatMap encRg)[0 + ((i : Nat) : Int).toNat * 4 + 1]? = some (.int .i64 x.b) := rowGet encRg_len hta rfl
    refine yq14 ?_; refine yq106 ?_; refine yq3 ?_; refine yq33 ?_; refine yq41 ?_; refine sm ?_; refine yq111 ?_; refine yq185 ?_; refine yq75 ?_; (refine T.storeVecP (lv := lv) Wanted.none rfl rfl rfl g3 (rowLt encRg_len (by first | (rw [turned_len]; omega) | (rw [List.length_set, turned_len]; omega) | (rw [List.length_set, List.length_set, turned_len]; omega)) (by decide)) zq1 ?_; intro lvh hvh); refine so ?_
    rw [rowSet encRg_len (x' := { x with b := x.b + a.tk.length }) hta (by decide) rfl] at hvh
    have hta2 : ((turned (shR a.tk.length) a.rg b.rg i).set i { x with b := x.b + a.tk.length })[i]? = some { x with b := x.b + a.tk.length } := by rw [List.getElem?_set_self (by rw [turned_len]; omega)]
    have hld2 : (((turned (shR a.tk.length) a.rg b.rg i).set i { x with b := x.b + a.tk.length }).flatMap encRg)[0 + ((i : Nat) : Int).toNat * 4 + 2]? = some (.int .i64 x.e) := rowGet encRg_len hta2 rfl
    clear g3
    refine sr ?_; refine yq5 ?_; refine sm ?_; refine yq111 ?_; refine yq185 ?_; refine yq75 ?_; (refine T.storeVecP (lv := lvh) Wanted.none rfl rfl rfl hvh (rowLt encRg_len (by first | (rw [turned_len]; omega) | (rw [List.length_set, turned_len]; omega) | (rw [List.length_set, List.length_set, turned_len]; omega)) (by decide)) zq1 ?_; intro lvg hvg); refine so ?_; refine T.blkEnd ?_
    rw [rowSet encRg_len (x' := { x with b := x.b + a.tk.length, e := x.e + a.tk.length }) hta2 (by decide) rfl, List.set_set] at hvg
    rw [show { x with b := x.b + a.tk.length, e := x.e + a.tk.length } = shR a.tk.length x from rfl, turned_set g1 hx] at hvg
    refine yq81 ?_; refine yq63 ?_
    exact T.nextP (i + 1, lvg) ⟨by dsimp only; omega, by dsimp only; omega, hvg⟩ (by dsimp only; omega) zq8 (by repeat (first | exact Sel.refl _ | exact Sel.nil | (refine Sel.cons zq1 ?_) | (refine Sel.app zq1 ?_) | exact Sel.one zq1)) rfl
  have hiN : i = a.rg.length + b.rg.length := by omega
  rw [hiN, turned_end] at g3
  refine yq14 ?_; refine yq106 ?_; refine yq3 ?_; refine yq16 ?_; refine T.freezeP (lv := lv) g3 zq1 ?_
  intro H6 hleH6 hsr
  have hb2 := hleH6 _ _ hb2
  have hb3 := hleH6 _ _ hb3
  have oa := oa.mono hleH6
  have ob := ob.mono hleH6
  have hs93 := hs93.mono hleH6
  have hs100 := hs100.mono hleH6
  have hsx := hsx.mono hleH6
  (repeat refine sq ?_)
  refine T.regionS [] 7 (by kernel_rfl) ?_; refine yq43 ?_; refine yq45 ?_
  refine TS.ways [2] (by kernel_rfl) rfl zq18 ⟨⟨_, rfl, ?_⟩, trivial⟩
  (refine T.appendP (lv := []) Wanted.none rfl rfl rfl (Vec.nil 105 4) (oa.n.src) (RowL.one fun x _ => one_encNd x) (by omega) zq1 ?_; intro v178 lv178 hv178 _; obtain ⟨ad178, cap178, rfl⟩ := hv178.val); refine yq24 ?_
  refine TS.ways [5] (by kernel_rfl) rfl zq18 ⟨⟨_, rfl, ?_⟩, trivial⟩
  (refine T.appendP (lv := lv178) Wanted.none rfl rfl rfl hv178 (ob.n.src) (RowL.one fun x _ => one_encNd x) (by omega) zq1 ?_; intro v181 lv181 hv181 _; obtain ⟨ad181, cap181, rfl⟩ := hv181.val); refine yq194 ?_
  refine TS.ways [7] (by kernel_rfl) rfl zq18 ⟨⟨_, rfl, ?_⟩, trivial⟩
  refine yq120 ?_
  obtain ⟨N7, hN7⟩ : ∃ N, N = 0 + a.nd.length + b.nd.length := ⟨_, rfl⟩
  rw [← hN7] at hv181 ⊢
  have hv181' : Vec 105 4 (.slice ad181 N7 cap181) lv181 N7 ((turned (shN a.tk.length a.nd.length) a.nd b.nd a.nd.length).flatMap encNd) := by
    rw [turned_start, List.flatMap_append]; simpa using hv181
  refine yq14 ?_; refine yq0 ?_; refine T.block ?_; refine T.loopK [(10, Value.pointer (some { block := b10, off := 0 })), (9, Value.int IntKind.i64 (↑a.nd.length : Int)), (8, Value.int IntKind.i64 (↑a.tk.length : Int)), (4, Value.pointer (some { block := b4, off := 0 })), (3, Value.pointer (some { block := b3, off := 0 })), (2, Value.pointer (some { block := b2, off := 0 }))] zq8 (γ := Nat × List (Nat × Obj)) (fun g => a.nd.length ≤ g.1 ∧ g.1 ≤ N7 ∧ Vec 105 4 (.slice ad181 N7 cap181) g.2 N7 ((turned (shN a.tk.length a.nd.length) a.nd b.nd g.1).flatMap encNd)) (fun g => [(13, .int .i64 (g.1 : Int))]) (fun g => g.2 ++ [(b10, .cells #[.slice ad93 (0 + a.att.length) cap93, .slice ad100 (0 + a.tk.length + b.tk.length) cap100, .slice ad107 N5 cap107, .slice ad144 N6 cap144, .slice ad181 N7 cap181, .slice none 0 0, .slice none 0 0] 32 (0, 0)), (b4, .cells #[.slice none 0 0, .slice none 0 0, .slice none 0 0, .slice none 0 0, .slice none 0 0, .slice none 0 0, .slice none 0 0] 32 (0, 0))]) (fun _ => H6) (fun g => N7 - g.1) (a.nd.length, lv181) ⟨by simp, by dsimp only; omega, hv181'⟩ zq8 (by repeat (first | exact Sel.refl _ | exact Sel.nil | (refine Sel.cons zq1 ?_) | (refine Sel.app zq1 ?_) | exact Sel.one zq1)) rfl ?_
  rintro ⟨i, lv⟩ ⟨g1, g2, g3⟩
  dsimp only at g1 g2 g3 ⊢
  by_cases hi : i < N7
  · obtain ⟨x, hx⟩ : ∃ x, b.nd[i - a.nd.length]? = some x := ⟨_, List.getElem?_eq_getElem (by omega)⟩
    have hxb := s10 _ x hx
    obtain ⟨bv, capv, hve⟩ := g3.ptr (by omega)
    injection hve with e1 e2 e3
    subst e1 e3
    have hta := turned_at (f := shN a.tk.length a.nd.length) g1 hx
    have hld1 : ((turned (shN a.tk.length a.nd.length) a.nd b.nd i).flatMap encNd)[0 + ((i : Nat) : Int).toNat * 4 + 1]? = some (.int .i64 x.b) := rowGet encNd_len hta rfl
    refine yq14 ?_; refine yq106 ?_; refine yq3 ?_; refine yq33 ?_; refine yq41 ?_; refine sm ?_; refine yq111 ?_; refine yq185 ?_; refine yq75 ?_; (refine T.storeVecP (lv := lv) Wanted.none rfl rfl rfl g3 (rowLt encNd_len (by first | (rw [turned_len]; omega) | (rw [List.length_set, turned_len]; omega) | (rw [List.length_set, List.length_set, turned_len]; omega)) (by decide)) zq1 ?_; intro lvh hvh); refine so ?_
    rw [rowSet encNd_len (x' := { x with b := x.b + a.tk.length }) hta (by decide) rfl] at hvh
    have hta2 : ((turned (shN a.tk.length a.nd.length) a.nd b.nd i).set i { x with b := x.b + a.tk.length })[i]? = some { x with b := x.b + a.tk.length } := by rw [List.getElem?_set_self (by rw [turned_len]; omega)]
    have hld2 : (((turned (shN a.tk.length a.nd.length) a.nd b.nd i).set i { x with b := x.b + a.tk.length }).flatMap encNd)[0 + ((i : Nat) : Int).toNat * 4 + 2]? = some (.int .i64 x.e) := rowGet encNd_len hta2 rfl
    clear g3
    refine yq41 ?_; refine sm ?_; refine yq111 ?_; refine yq185 ?_; refine yq75 ?_; (refine T.storeVecP (lv := lvh) Wanted.none rfl rfl rfl hvh (rowLt encNd_len (by first | (rw [turned_len]; omega) | (rw [List.length_set, turned_len]; omega) | (rw [List.length_set, List.length_set, turned_len]; omega)) (by decide)) zq1 ?_; intro lvg hvg); refine so ?_
    rw [rowSet encNd_len (x' := { x with b := x.b + a.tk.length, e := x.e + a.tk.length }) hta2 (by decide) rfl, List.set_set] at hvg
    have hta3 : ((turned (shN a.tk.length a.nd.length) a.nd b.nd i).set i { x with b := x.b + a.tk.length, e := x.e + a.tk.length })[i]? = some { x with b := x.b + a.tk.length, e := x.e + a.tk.length } := by rw [List.getElem?_set_self (by rw [turned_len]; omega)]
    have hld3 : (((turned (shN a.tk.length a.nd.length) a.nd b.nd i).set i { x with b := x.b + a.tk.length, e := x.e + a.tk.length }).flatMap encNd)[0 + ((i : Nat) : Int).toNat * 4 + 3]? = some (.int .i64 x.p) := rowGet encNd_len hta3 rfl
    clear hvh
    by_cases hp : 0 ≤ x.p
    · refine yq41 ?_; refine sm ?_; refine yq111 ?_; refine sv (PV.geq rfl rfl) ?_; refine yq46 ?_; refine sr ?_; refine yq5 ?_; refine sm ?_; refine yq111 ?_; refine yq185 ?_; refine yq75 ?_; (refine T.storeVecP (lv := lvg) Wanted.none rfl rfl rfl hvg (rowLt encNd_len (by first | (rw [turned_len]; omega) | (rw [List.length_set, turned_len]; omega) | (rw [List.length_set, List.length_set, turned_len]; omega)) (by decide)) zq1 ?_; intro lvk hvk); refine so ?_; refine T.blkEnd ?_
      rw [rowSet encNd_len (x' := shN a.tk.length a.nd.length x) hta3 (by decide) (by unfold shN; rw [if_pos hp]; rfl), List.set_set, turned_set g1 hx] at hvk
      refine yq81 ?_; refine yq63 ?_
      exact T.nextP (i + 1, lvk) ⟨by dsimp only; omega, by dsimp only; omega, hvk⟩ (by dsimp only; omega) zq8 (by repeat (first | exact Sel.refl _ | exact Sel.nil | (refine Sel.cons zq1 ?_) | (refine Sel.app zq1 ?_) | exact Sel.one zq1)) rfl
    · refine yq41 ?_; refine sm ?_; refine yq111 ?_; refine sv (PV.geq rfl rfl) ?_; refine yq88 ?_; refine T.blkEnd ?_
      rw [show { x with b := x.b + a.tk.length, e := x.e + a.tk.length } = shN a.tk.length a.nd.length x by unfold shN; rw [if_neg hp], turned_set g1 hx] at hvg
      refine yq81 ?_; refine yq63 ?_
      exact T.nextP (i + 1, lvg) ⟨by dsimp only; omega, by dsimp only; omega, hvg⟩ (by dsimp only; omega) zq8 (by repeat (first | exact Sel.refl _ | exact Sel.nil | (refine Sel.cons zq1 ?_) | (refine Sel.app zq1 ?_) | exact Sel.one zq1)) rfl
  have hiN : i = a.nd.length + b.nd.length := by omega
  rw [hiN, turned_end] at g3
  refine yq14 ?_; refine yq106 ?_; refine yq3 ?_; refine yq16 ?_; refine T.freezeP (lv := lv) g3 zq1 ?_
  intro H7 hleH7 hsn
  have hb2 := hleH7 _ _ hb2
  have hb3 := hleH7 _ _ hb3
  have oa := oa.mono hleH7
  have ob := ob.mono hleH7
  have hs93 := hs93.mono hleH7
  have hs100 := hs100.mono hleH7
  have hsx := hsx.mono hleH7
  have hsr := hsr.mono hleH7
  have hfin : ∀ (H' : Hp) (vh vs : Value) (hd : List Int) (rl : List ByteArray), H7.le H' → InL H' vh hd → StL H' vs rl → hd.length ≤ a.hd.length + a.tk.length + (b.hd.length + b.tk.length) → rl.length ≤ a.rl.length + a.tk.length + (b.rl.length + b.tk.length) →
      ∃ c, Value.agg #[.slice ad93 (0 + a.att.length) cap93, .slice ad100 (0 + a.tk.length + b.tk.length) cap100, .slice ad107 N5 cap107, .slice ad144 N6 cap144, .slice ad181 N7 cap181, vh, vs] = cpV c ∧ CpL H' c ∧ CatR a b c := by
    intro H' vh vs hd rl hle h1 h2 h3 h4
    have oa := oa.mono hle
    have ob := ob.mono hle
    have hs93 := hs93.mono hle
    have hs100 := hs100.mono hle
    have hsx := hsx.mono hle
    have hsr := hsr.mono hle
    have hsn := hsn.mono hle
    simp only [Nat.zero_add, List.nil_append] at hs93 hs100
    rw [← List.flatMap_append] at hs100
    have e1 : a.tk.length + b.tk.length = (a.tk ++ b.tk).length := by simp
    have e2 : N5 = (a.tx ++ b.tx.map (shR a.tk.length)).length := by simp; omega
    have e3 : N6 = (a.rg ++ b.rg.map (shR a.tk.length)).length := by simp; omega
    have e4 : N7 = (a.nd ++ b.nd.map (shN a.tk.length a.nd.length)).length := by simp; omega
    rw [e1] at hs100
    rw [e2] at hsx
    rw [e3] at hsr
    rw [e4] at hsn
    have okM : ∀ (A B : List Rg), (∀ r ∈ A, RgOk H' r) → (∀ r ∈ B, RgOk H' r) → ∀ r ∈ A ++ B.map (shR a.tk.length), RgOk H' r := by
      intro A B hA hB r hr
      rcases List.mem_append.1 hr with h | h
      · exact hA r h
      · obtain ⟨y, hy, rfl⟩ := List.mem_map.1 h
        exact hB y hy
    refine ⟨⟨_, a.att, _, a.tk ++ b.tk, _, a.tx ++ b.tx.map (shR a.tk.length), _, a.rg ++ b.rg.map (shR a.tk.length), _, a.nd ++ b.nd.map (shN a.tk.length a.nd.length), vh, hd, vs, rl⟩, ?_, ⟨hs93, hs100, ⟨hsx, okM _ _ oa.x.2 ob.x.2⟩, ⟨hsr, okM _ _ oa.r.2 ob.r.2⟩, hsn, h1, h2, ?_, by dsimp only; omega, ?_, ?_, ?_, ?_, by dsimp only; omega, by dsimp only; omega⟩, ⟨rfl, rfl, rfl, rfl, rfl, h3, h4⟩⟩
    · unfold cpV
      simp only [Nat.zero_add, ← e1, ← e2, ← e3, ← e4]
    · intro t ht
      rcases List.mem_append.1 ht with h | h
      · exact oa.tO t h
      · exact ob.tO t h
    all_goals (dsimp only; simp; omega)
  have hz1 : InL H7 (.slice none 0 0) [] := SlR.empty
  have hz2 : StL H7 (.slice none 0 0) [] := SlR.empty
  by_cases hh : 0 < a.hd.length + b.hd.length
  · have hah := allHeads_fn a H7 (((((ha.mono hleA).mono hle3).mono hleH4).mono hleH5).mono (hleH6.trans hleH7))
    rw [hca] at hah
    refine yq129 ?_; refine yq106 ?_; refine sv (PV.add rfl rfl (by omega)) ?_; refine sv (PV.gtr rfl rfl) ?_; refine yq46 ?_; refine yq52 ?_; refine T.call Wanted.none rfl rfl hah ?_
    rintro _ H8 hle8 ⟨v1, v2, l1, l2, rfl, hv1, hv2, hl1, hl2⟩
    have hb2 := hle8 _ _ hb2
    have hb3 := hle8 _ _ hb3
    have hbh := allHeads_fn b H8 ((((((hb.mono hleA).mono hle3).mono hleH4).mono hleH5).mono (hleH6.trans hleH7)).mono hle8)
    rw [hcb] at hbh
    obtain ⟨ad1, cap1, rfl⟩ := hv1.len
    obtain ⟨ad2, cap2, rfl⟩ := hv2.len
    refine yq146 ?_; refine sa ?_; refine yq95 ?_; refine T.call Wanted.none rfl rfl hbh ?_
    rintro _ H9 hle9 ⟨v3, v4, l3, l4, rfl, hv3, hv4, hl3, hl4⟩
    have hv1 := hv1.mono hle9
    have hv2 := hv2.mono hle9
    have hb2 := hle9 _ _ hb2
    have hb3 := hle9 _ _ hb3
    obtain ⟨ad3, cap3, rfl⟩ := hv3.len
    obtain ⟨ad4, cap4, rfl⟩ := hv4.len
    refine yq146 ?_; refine sa ?_; refine yq56 ?_; (refine T.appendP (lv := []) Wanted.none rfl rfl rfl (Vec.nil 3 1) (hv1.src) (RowL.one fun x _ => one_encI x) (by omega) zq1 ?_; intro v247 lv247 hv247 _; obtain ⟨ad247, cap247, rfl⟩ := hv247.val); refine sm ?_; (refine T.appendP (lv := []) Wanted.none rfl rfl rfl (Vec.nil 9 1) (hv2.src) (RowL.one fun x _ => one_encT x) (by omega) zq1 ?_; intro v249 lv249 hv249 _; obtain ⟨ad249, cap249, rfl⟩ := hv249.val); refine sm ?_; (refine T.appendP (lv := lv249) Wanted.none rfl rfl rfl hv249 (hv4.src) (RowL.one fun x _ => one_encT x) (by omega) zq1 ?_; intro v251 lv251 hv251 _; obtain ⟨ad251, cap251, rfl⟩ := hv251.val); refine yq116 ?_; refine yq116 ?_; refine zs1 ?_; refine yq83 ?_; refine yq80 ?_; refine T.freezeP (lv := lv251) hv251 zq1 ?_
    intro H10 hle10 hs251
    have hv3 := hv3.mono hle10
    simp only [Nat.zero_add, List.nil_append] at hs251 hv247
    rw [← List.flatMap_append, show l2.length + l4.length = (l2 ++ l4).length by simp] at hs251
    refine T.loopK [(255, Value.int IntKind.i64 (↑l3.length : Int)), (254, Value.slice ad3 l3.length cap3), (10, Value.pointer (some { block := b10, off := 0 })), (8, Value.int IntKind.i64 (↑a.tk.length : Int)), (4, Value.pointer (some { block := b4, off := 0 }))] zq8 (γ := Nat × Value × List (Nat × Obj) × List Int) (fun g => g.1 ≤ l3.length ∧ g.2.2.2.length = l1.length + g.1 ∧ RowV 3 encI 1 g.2.1 g.2.2.1 g.2.2.2) (fun g => [(256, .int .i64 (g.1 : Int))]) (fun g => g.2.2.1 ++ [(b10, .cells #[.slice ad93 (0 + a.att.length) cap93, .slice ad100 (0 + a.tk.length + b.tk.length) cap100, .slice ad107 N5 cap107, .slice ad144 N6 cap144, .slice ad181 N7 cap181, g.2.1, .slice ad251 (0 + l2.length + l4.length) cap251] 32 (0, 0)), (b4, .cells #[.slice none 0 0, .slice none 0 0, .slice none 0 0, .slice none 0 0, .slice none 0 0, .slice none 0 0, .slice none 0 0] 32 (0, 0))]) (fun _ => H10) (fun g => l3.length - g.1) (0, .slice ad247 (0 + l1.length) cap247, lv247, l1) ⟨by simp, by simp, by dsimp only; rw [Nat.zero_add]; exact hv247⟩ zq8 (by repeat (first | exact Sel.refl _ | exact Sel.nil | (refine Sel.cons zq1 ?_) | (refine Sel.app zq1 ?_) | exact Sel.one zq1)) rfl ?_
    rintro ⟨i, v, lv, l⟩ ⟨g1, g2, g3⟩
    dsimp only at g1 g2 g3 ⊢
    obtain ⟨adv, capv, rfl⟩ := g3.val
    by_cases hi : i < l3.length
    · obtain ⟨bx, off, x, rfl, hix, hsub⟩ := RowL.get encI_len hv3 hi
      unfold encI at hsub
      by_cases hx0 : 0 ≤ x
      · refine yq82 ?_; refine yq15 ?_; refine yq127 ?_; refine sv (PV.geq rfl rfl) ?_; refine yq46 ?_; refine yq81 ?_; refine sm ?_; refine sv (PV.addK rfl rfl) ?_
        generalize IntKind.i64.wrap (x + (a.tk.length : Int)) = z
        refine sa ?_; refine zs2 ?_; refine yq5 ?_; refine sm ?_; (refine T.buildSlice Wanted.none rfl rfl zq11 (by exact rfl) (by exact rfl) ?_; intro b268); (refine T.appendP (lv := lv) Wanted.none rfl rfl rfl g3 (Src.cells (m := 1) (ys := encI _) (.own zq2) rfl rfl) (one_encI _) (by omega) zq1 ?_; intro v269 lv269 hv269 _; obtain ⟨ad269, cap269, rfl⟩ := hv269.val); refine yq116 ?_; refine so ?_; refine yq61 ?_
        exact T.nextP (i + 1, .slice ad269 (l.length + 1) cap269, lv269, l ++ [z]) ⟨by dsimp only; omega, by dsimp only; rw [List.length_append, g2]; simp only [List.length_singleton]; omega, RowV.snoc hv269⟩ (by dsimp only; omega) zq8 (by repeat (first | exact Sel.refl _ | exact Sel.nil | (refine Sel.cons zq1 ?_) | (refine Sel.app zq1 ?_) | exact Sel.one zq1)) rfl
      · refine yq82 ?_; refine yq15 ?_; refine yq127 ?_; refine sv (PV.geq rfl rfl) ?_; refine yq88 ?_; refine sr ?_; refine yq5 ?_; refine sm ?_; (refine T.buildSlice Wanted.none rfl rfl zq11 (by exact rfl) (by exact rfl) ?_; intro b268); (refine T.appendP (lv := lv) Wanted.none rfl rfl rfl g3 (Src.cells (m := 1) (ys := encI _) (.own zq2) rfl rfl) (one_encI _) (by omega) zq1 ?_; intro v269 lv269 hv269 _; obtain ⟨ad269, cap269, rfl⟩ := hv269.val); refine yq116 ?_; refine so ?_; refine yq61 ?_
        exact T.nextP (i + 1, .slice ad269 (l.length + 1) cap269, lv269, l ++ [x]) ⟨by dsimp only; omega, by dsimp only; rw [List.length_append, g2]; simp only [List.length_singleton]; omega, RowV.snoc hv269⟩ (by dsimp only; omega) zq8 (by repeat (first | exact Sel.refl _ | exact Sel.nil | (refine Sel.cons zq1 ?_) | (refine Sel.app zq1 ?_) | exact Sel.one zq1)) rfl
    · refine yq74 ?_; refine yq52 ?_; refine yq54 ?_; refine T.freezeP (lv := lv) g3 zq1 ?_
      intro H11 hle11 hsv
      obtain ⟨c, k1, k2, k3⟩ := hfin H11 _ (.slice ad251 (0 + l2.length + l4.length) cap251) l (l2 ++ l4) (((hle8.trans hle9).trans hle10).trans hle11) hsv (by have := hs251.mono hle11; rw [show 0 + l2.length + l4.length = (l2 ++ l4).length by simp]; exact this) (by omega) (by rw [List.length_append]; omega)
      exact T.retF (Lv.fin (RV.ct rfl (CV.agg rfl zq0 (by exact rfl)) rfl) ⟨c, _, by rw [← k1], k2, fun _ => k3⟩)
  · refine yq129 ?_; refine yq106 ?_; refine sv (PV.add rfl rfl (by omega)) ?_; refine sv (PV.gtr rfl rfl) ?_; refine yq88 ?_; refine yq52 ?_; refine yq54 ?_
    obtain ⟨c, k1, k2, k3⟩ := hfin H7 (.slice none 0 0) (.slice none 0 0) [] [] (Hp.le.refl _) hz1 hz2 (by simp) (by simp)
    exact T.retF (Lv.fin (RV.ct rfl (CV.agg rfl zq0 (by exact rfl)) rfl) ⟨c, _, by rw [← k1], k2, fun _ => k3⟩)
end Go.Proofs.YthacphfjchpoaaaGreatDoor
