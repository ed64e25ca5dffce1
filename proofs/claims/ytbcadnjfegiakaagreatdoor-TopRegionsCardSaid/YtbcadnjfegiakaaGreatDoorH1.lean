/- the statement Regions. -/
import Derived.Test.YtbcadnjfegiakaaGreatDoorGZ
namespace Go.Proofs.YtbcadnjfegiakaaGreatDoor
open Go.RowKit


structure TrG where
  b : Nat
  v : Value
  lv : List (Nat × Obj)
  u : Value
  lu : List (Nat × Obj)
structure TeG where
  i : Nat
  q1 : Bool
  q2 : Bool
  q3 : Bool
set_option maxRecDepth 100000 in
set_option maxHeartbeats 16000000 in
theorem regions_law (haw : ∀ H, Fn Tryz.prog 12 #[] H (fun u _ => u = .bool true)) (c : Cp) (kind : ByteArray) (H : Hp) (hc : CpR H c) :
    Fn Tryz.prog 3 #[cpV c, .string kind] H (fun u _ => u = .bool true) := by
  have hti := tinyM_fn 24 (by omega) c H hc
  have hnm := name4_fn kind H
  obtain ⟨at1, ct, e2⟩ := hc.t.len
  obtain ⟨ar, cr, e4⟩ := hc.r.1.len
  unfold cpV at hti ⊢
  rw [e2, e4] at hti ⊢
  refine Fn.of_T (vs := [_, .string kind]) Tryz.func3 rfl rfl fun w => ?_; refine zs3 ?_; (refine T.box Wanted.none rfl rfl zq15 ?_; intro b2); refine yq11 ?_; refine zs3 ?_; refine sv (PV.loadAll rfl zq0 (by exact rfl)) ?_; (refine T.callX Wanted.none rfl rfl hti ?_; rintro _ ⟨b23, rfl, hb23⟩); refine sv (PV.not rfl) ?_; refine sm ?_
  cases b23
  · refine yq17 ?_; refine sp ?_; refine sT ?_; refine so ?_; refine T.condT rfl rfl ?_; refine zs3 ?_; refine yq0 ?_
    exact T.retF (Lv.fin (RV.tmp rfl rfl) rfl)
  obtain ⟨hA, hg, hl24, _⟩ := hb23 rfl
  cases hn : validName kind
  · rw [hn] at hnm
    refine gm ?_; refine T.callV (Wanted.guard rfl rfl rfl) rfl rfl (hnm) ?_; refine gv (PV.not rfl) ?_; refine sF ?_; refine so ?_; refine T.condT rfl rfl ?_; refine zs3 ?_; refine yq0 ?_
    exact T.retF (Lv.fin (RV.tmp rfl rfl) rfl)
  rw [hn] at hnm
  refine gm ?_; refine T.callV (Wanted.guard rfl rfl rfl) rfl rfl (hnm) ?_; refine gv (PV.not rfl) ?_; refine sF ?_; refine so ?_; refine yq7 ?_; refine zs3 ?_; refine sv (PV.build rfl zq12) ?_; refine sv (PV.build rfl zq12) ?_; (refine T.buildSlice Wanted.none rfl rfl zq11 (by exact rfl) (by exact rfl) ?_; intro b32); refine sv (PV.build rfl zq12) ?_; refine sy fun b5 => ?_; refine yq13 ?_; refine sm ?_; refine sv (PV.build rfl zq12) ?_; refine sv (PV.loadAll rfl zq0 (by exact rfl)) ?_; refine sm ?_; refine sv (PV.build rfl zq12) ?_; (refine T.buildSlice Wanted.none rfl rfl zq11 (by exact rfl) (by exact rfl) ?_; intro b39); refine sv (PV.build rfl zq12) ?_; refine sy fun b6 => ?_; refine yq13 ?_; refine sv (PV.loadAll rfl zq0 (by exact rfl)) ?_; refine sv (PV.loadAll rfl zq0 (by exact rfl)) ?_; refine sv (PV.build rfl zq12) ?_; refine T.freezeB (b := b32) zq1 ?_
  intro H1 hle1 hb32
  refine T.freezeB (b := b39) zq1 ?_
  intro H2 hle2 hb39
  have hp2 : PtR H2 kind b39 b32 := ⟨⟨_, hb39⟩, ⟨_, hle2 _ _ hb32⟩⟩
  have hA2 := hA.mono (hle1.trans hle2)
  have hev := evaluate_fn c kind b39 b32 none 0 [] H2 hA2 hg hp2 hn SlR.empty (by simp) okF_nil hl24
  rw [passS_nil] at hev
  unfold cpV quV quC encPn pS at hev
  rw [e2, e4] at hev
  dsimp only [List.cons_append, List.nil_append] at hev
  refine T.call Wanted.none rfl rfl hev ?_
  rintro _ H3 hle3 ⟨v7, a7, rfl, ha7, hk7⟩
  obtain ⟨ad7, cap7, rfl⟩ := ha7.1.len
  refine sm ?_; refine yq19 ?_; refine sa ?_; refine yq14 ?_; refine sv (PV.loadAll rfl zq0 (by exact rfl)) ?_; refine sv (PV.loadAll rfl zq0 (by exact rfl)) ?_; refine sm ?_; refine sv (PV.build rfl zq12) ?_; (refine T.buildSlice Wanted.none rfl rfl zq11 (by exact rfl) (by exact rfl) ?_; intro b53); refine sv (PV.build rfl zq12) ?_; refine T.freezeB (b := b53) zq1 ?_
  intro H4 hle4 hb53
  have hA4 := (hA2.mono hle3).mono hle4
  have hp4 := (hp2.mono hle3).mono hle4
  have hf4 : FlL H4 (.slice (some ⟨b53, 0, none⟩) [fW kind].length 1) [fW kind] := ⟨rfl, .inr ⟨b53, 0, 1, _, _, _, rfl, hb53, rfl, Nat.le_refl 1⟩⟩
  have hev2 := evaluate_fn c kind b39 b32 (some ⟨b53, 0, none⟩) 1 [fW kind] H4 hA4 hg hp4 hn hf4 (by simp) (okF_W hn) hl24
  rw [inner_eq hn] at hev2
  unfold cpV quV quC encPn pS at hev2
  rw [e2, e4] at hev2
  dsimp only [List.cons_append, List.nil_append] at hev2
  refine T.call Wanted.none rfl rfl hev2 ?_
  rintro _ H5 hle5 ⟨v9, a9, rfl, ha9, hk9⟩
  obtain ⟨ad9, cap9, rfl⟩ := ha9.1.len
  refine sm ?_; refine yq19 ?_; refine sa ?_; refine yq11 ?_; refine yq4 ?_; refine sv (PV.neq rfl rfl) ?_; refine sm ?_; refine gm ?_; refine gv (PV.neq rfl rfl) ?_; refine sF ?_; refine so ?_; refine yq7 ?_; refine zs3 ?_; refine sa ?_; refine yq11 ?_; refine zs3 ?_; refine yq0 ?_; refine T.block ?_
  have hA5 := hA4.mono hle5
  have hr5 := hA5.r
  rw [e4] at hr5
  have hlr := hA5.lr
  have hta := fun p => textAtP_fn c p H5 hA5
  unfold cpV at hta
  rw [e2, e4] at hta
  have hbound : ∀ (p : Int → Int → Bool) b, b ≤ c.tk.length → (allW p c.tk.length b).length ≤ 576 := fun p b hb =>
    Nat.le_trans (allW_len p c.tk.length b) (Nat.mul_le_mul (Nat.le_trans hb hl24) hl24)
  refine T.loopK [(9, Value.slice ad9 a9.length cap9), (7, Value.slice ad7 a7.length cap7), (2, Value.pointer (some { block := b2, off := 0 })), (1, Value.string kind)] zq8 (γ := TrG) (fun g => g.b ≤ c.tk.length ∧ SpV g.v g.lv (allW (wntB c kind) c.tk.length g.b) ∧ SpV g.u g.lu (allW (innB c kind) c.tk.length g.b)) (fun g => [(13, .int .i64 (g.b : Int)), (11, g.v), (12, g.u)]) (fun g => g.lv ++ (g.lu ++ [(b2, .cells #[c.va, .slice at1 c.tk.length ct, c.vx, .slice ar c.rg.length cr, c.vn, c.vh, c.vs] 30 (0, 0))])) (fun _ => H5) (fun g => c.tk.length - g.b) ⟨0, .slice none 0 0, [], .slice none 0 0, []⟩ ⟨Nat.zero_le _, Vec.nil _ _, Vec.nil _ _⟩ zq8 (by repeat (first | exact Sel.refl _ | exact Sel.nil | (refine Sel.cons zq1 ?_) | (refine Sel.app zq1 ?_) | exact Sel.one zq1)) rfl ?_
  rintro ⟨b, v, lv, u, lu⟩ ⟨g1, g2, g3⟩
  dsimp only at g1 g2 g3 ⊢
  by_cases hb : b < c.tk.length
  · refine sq ?_; refine yq4 ?_; refine yq12 ?_; refine yq2 ?_; refine sC rfl (by omega) ?_; refine yq25 ?_; refine yq4 ?_; refine sv (PV.add rfl rfl (by omega)) ?_; refine yq0 ?_; refine T.block ?_; refine T.loopK [(13, Value.int IntKind.i64 (↑b : Int)), (9, Value.slice ad9 a9.length cap9), (7, Value.slice ad7 a7.length cap7), (2, Value.pointer (some { block := b2, off := 0 })), (1, Value.string kind)] zq8 (γ := TrG) (fun g => b ≤ g.b ∧ g.b ≤ c.tk.length ∧ SpV g.v g.lv (allW (wntB c kind) c.tk.length b ++ rowW (wntB c kind) b g.b) ∧ SpV g.u g.lu (allW (innB c kind) c.tk.length b ++ rowW (innB c kind) b g.b)) (fun g => [(14, .int .i64 ((g.b : Int) + 1)), (11, g.v), (12, g.u)]) (fun g => g.lv ++ (g.lu ++ [(b2, .cells #[c.va, .slice at1 c.tk.length ct, c.vx, .slice ar c.rg.length cr, c.vn, c.vh, c.vs] 30 (0, 0))])) (fun _ => H5) (fun g => c.tk.length - g.b) ⟨b, v, lv, u, lu⟩ ⟨Nat.le_refl _, g1, by rw [rowW_nil, List.append_nil]; exact g2, by rw [rowW_nil, List.append_nil]; exact g3⟩ zq8 (by repeat (first | exact Sel.refl _ | exact Sel.nil | (refine Sel.cons zq1 ?_) | (refine Sel.app zq1 ?_) | exact Sel.one zq1)) rfl ?_
    clear g2 g3
    rintro ⟨e, v, lv, u, lu⟩ ⟨j1, j2, j3, j4⟩
    dsimp only at j1 j2 j3 j4 ⊢
    by_cases he : e < c.tk.length
    · refine sq ?_; refine yq4 ?_; refine yq12 ?_; refine sv (PV.leq rfl rfl) ?_; refine so ?_; refine sC rfl (by omega) ?_; refine yq25 ?_; refine zs3 ?_; refine sa ?_; refine sa ?_; refine yq11 ?_; refine zs3 ?_; refine yq12 ?_; refine yq35 ?_; refine T.loopK [(82, Value.int IntKind.i64 (↑c.rg.length : Int)), (81, Value.slice ar c.rg.length cr), (14, Value.int IntKind.i64 ((↑e : Int) + 1)), (11, v), (12, u), (13, Value.int IntKind.i64 (↑b : Int)), (9, Value.slice ad9 a9.length cap9), (7, Value.slice ad7 a7.length cap7), (2, Value.pointer (some { block := b2, off := 0 })), (1, Value.string kind)] zq8 (γ := TeG) (fun g => g.i ≤ c.rg.length ∧ g.q1 = (c.rg.take g.i).any (f1B kind (b : Int)) ∧ g.q2 = (c.rg.take g.i).any (f2B kind ((e : Int) + 1)) ∧ g.q3 = (c.rg.take g.i).any (f3B kind (b : Int) ((e : Int) + 1))) (fun g => [(83, .int .i64 (g.i : Int)), (15, .bool g.q1), (16, .bool g.q2), (17, .bool g.q3)]) (fun _ => lv ++ (lu ++ [(b2, .cells #[c.va, .slice at1 c.tk.length ct, c.vx, .slice ar c.rg.length cr, c.vn, c.vh, c.vs] 30 (0, 0))])) (fun _ => H5) (fun g => c.rg.length - g.i) ⟨0, false, false, false⟩ ⟨Nat.zero_le _, rfl, rfl, rfl⟩ zq8 (by repeat (first | exact Sel.refl _ | exact Sel.nil | (refine Sel.cons zq1 ?_) | (refine Sel.app zq1 ?_) | exact Sel.one zq1)) rfl ?_
      rintro ⟨i, q1, q2, q3⟩ ⟨i1, i2, i3, i4⟩
      dsimp only at i1 i2 i3 i4 ⊢
      by_cases hi : i < c.rg.length
      · obtain ⟨bx, off, r, rfl, hix, hsub⟩ := RowL.get encRg_len hr5.1 hi
        obtain ⟨am, cm, hmv⟩ := (hr5.2 r (List.mem_of_getElem? hix)).1.len
        unfold encRg at hsub
        rw [hmv] at hsub
        have n1 := any_snoc (f1B kind (b : Int)) hix
        have n2 := any_snoc (f2B kind ((e : Int) + 1)) hix
        have n3 := any_snoc (f3B kind (b : Int) ((e : Int) + 1)) hix
        rw [← i2] at n1
        rw [← i3] at n2
        rw [← i4] at n3
        by_cases hk : r.ty = kind
        · have hkd := decide_eq_true hk
          refine yq16 ?_; refine sC rfl (by omega) ?_; refine yq25 ?_; refine zs3 ?_; refine yq5 ?_; refine sy fun b19 => ?_; refine yq13 ?_; refine yq6 ?_; refine sm ?_; refine sv (PV.seql rfl rfl) ?_; refine so ?_; refine T.condT rfl (by assumption) ?_
          (repeat refine sq ?_)
          refine T.cutK [(19, Value.pointer (some { block := b19, off := 0 })), (83, Value.int IntKind.i64 (↑i : Int)), (16, Value.bool q2), (17, Value.bool q3), (82, Value.int IntKind.i64 (↑c.rg.length : Int)), (81, Value.slice (some { block := bx, off := off }) c.rg.length cr), (14, Value.int IntKind.i64 ((↑e : Int) + 1)), (11, v), (12, u), (13, Value.int IntKind.i64 (↑b : Int)), (9, Value.slice ad9 a9.length cap9), (7, Value.slice ad7 a7.length cap7), (2, Value.pointer (some { block := b2, off := 0 })), (1, Value.string kind)] (γ := Unit) (fun _ => True) (fun _ => [(15, .bool (q1 || decide (r.b = (b : Int))))]) (fun _ => (b19, .cells #[.string r.ty, .int .i64 r.b, .int .i64 r.e, .slice am r.ks.length cm] 54 (0, 0)) :: (lv ++ (lu ++ [(b2, .cells #[c.va, .slice at1 c.tk.length ct, c.vx, .slice (some ⟨bx, off, none⟩) c.rg.length cr, c.vn, c.vh, c.vs] 30 (0, 0))]))) ?_ fun K => ?_
          rotate_left
          · cases q1
            · refine sr ?_; refine sm ?_; refine sm ?_; refine yq26 ?_; refine gm ?_; refine gv (PV.eql rfl rfl) ?_; refine sF ?_; refine yq0 ?_; (exact K () _ _ trivial zq8 (by repeat (first | exact Sel.refl _ | exact Sel.nil | (refine Sel.cons zq1 ?_) | (refine Sel.app zq1 ?_) | exact Sel.one zq1)))
            · refine sr ?_; refine sm ?_; refine sm ?_; refine yq17 ?_; refine yq17 ?_; refine sT ?_; refine yq0 ?_; (exact K () _ _ trivial zq8 (by repeat (first | exact Sel.refl _ | exact Sel.nil | (refine Sel.cons zq1 ?_) | (refine Sel.app zq1 ?_) | exact Sel.one zq1)))
          rintro ⟨⟩ _
          (repeat refine sq ?_)
          refine T.cutK [(15, Value.bool (q1 || decide (r.b = (↑b : Int)))), (19, Value.pointer (some { block := b19, off := 0 })), (83, Value.int IntKind.i64 (↑i : Int)), (17, Value.bool q3), (82, Value.int IntKind.i64 (↑c.rg.length : Int)), (81, Value.slice (some { block := bx, off := off }) c.rg.length cr), (14, Value.int IntKind.i64 ((↑e : Int) + 1)), (11, v), (12, u), (13, Value.int IntKind.i64 (↑b : Int)), (9, Value.slice ad9 a9.length cap9), (7, Value.slice ad7 a7.length cap7), (2, Value.pointer (some { block := b2, off := 0 })), (1, Value.string kind)] (γ := Unit) (fun _ => True) (fun _ => [(16, .bool (q2 || decide (r.e = (e : Int) + 1)))]) (fun _ => (b19, .cells #[.string r.ty, .int .i64 r.b, .int .i64 r.e, .slice am r.ks.length cm] 54 (0, 0)) :: (lv ++ (lu ++ [(b2, .cells #[c.va, .slice at1 c.tk.length ct, c.vx, .slice (some ⟨bx, off, none⟩) c.rg.length cr, c.vn, c.vh, c.vs] 30 (0, 0))]))) ?_ fun K => ?_
          rotate_left
          · cases q2
            · refine sr ?_; refine sm ?_; refine sm ?_; refine yq26 ?_; refine gm ?_; refine gv (PV.eql rfl rfl) ?_; refine sF ?_; refine yq0 ?_; (exact K () _ _ trivial zq8 (by repeat (first | exact Sel.refl _ | exact Sel.nil | (refine Sel.cons zq1 ?_) | (refine Sel.app zq1 ?_) | exact Sel.one zq1)))
            · refine sr ?_; refine sm ?_; refine sm ?_; refine yq17 ?_; refine yq17 ?_; refine sT ?_; refine yq0 ?_; (exact K () _ _ trivial zq8 (by repeat (first | exact Sel.refl _ | exact Sel.nil | (refine Sel.cons zq1 ?_) | (refine Sel.app zq1 ?_) | exact Sel.one zq1)))
          rintro ⟨⟩ _
          (repeat refine sq ?_)
          refine T.cutK [(16, Value.bool (q2 || decide (r.e = (↑e : Int) + 1))), (15, Value.bool (q1 || decide (r.b = (↑b : Int)))), (83, Value.int IntKind.i64 (↑i : Int)), (82, Value.int IntKind.i64 (↑c.rg.length : Int)), (81, Value.slice (some { block := bx, off := off }) c.rg.length cr), (14, Value.int IntKind.i64 ((↑e : Int) + 1)), (11, v), (12, u), (13, Value.int IntKind.i64 (↑b : Int)), (9, Value.slice ad9 a9.length cap9), (7, Value.slice ad7 a7.length cap7), (2, Value.pointer (some { block := b2, off := 0 })), (1, Value.string kind)] (γ := Unit) (fun _ => True) (fun _ => [(17, .bool (q3 || (decide (r.b ≤ (b : Int)) && decide ((e : Int) + 1 ≤ r.e))))]) (fun _ => (b19, .cells #[.string r.ty, .int .i64 r.b, .int .i64 r.e, .slice am r.ks.length cm] 54 (0, 0)) :: (lv ++ (lu ++ [(b2, .cells #[c.va, .slice at1 c.tk.length ct, c.vx, .slice (some ⟨bx, off, none⟩) c.rg.length cr, c.vn, c.vh, c.vs] 30 (0, 0))]))) ?_ fun K => ?_
          rotate_left
          · cases q3
            · by_cases h3 : r.b ≤ (b : Int)
              · rw [decide_eq_true h3] at K
                refine sr ?_; refine sm ?_; refine sm ?_; refine yq26 ?_; refine gm ?_; refine gv (PV.leq rfl rfl) ?_; refine gm ?_; refine T.setT (d := 111) rfl (by omega) ?_; refine gm ?_; refine yq26 ?_; refine gv (PV.leq rfl rfl) ?_; refine gv (PV.pickT rfl rfl rfl) ?_; refine sF ?_; refine yq0 ?_; (exact K () _ _ trivial zq8 (by repeat (first | exact Sel.refl _ | exact Sel.nil | (refine Sel.cons zq1 ?_) | (refine Sel.app zq1 ?_) | exact Sel.one zq1)))
              · rw [decide_eq_false h3] at K
                refine sr ?_; refine sm ?_; refine sm ?_; refine yq26 ?_; refine gm ?_; refine gv (PV.leq rfl rfl) ?_; refine gm ?_; refine T.setF (d := 111) rfl (by omega) ?_; refine yq17 ?_; refine yq17 ?_; refine gv (PV.pickF rfl rfl rfl) ?_; refine sF ?_; refine yq0 ?_; (exact K () _ _ trivial zq8 (by repeat (first | exact Sel.refl _ | exact Sel.nil | (refine Sel.cons zq1 ?_) | (refine Sel.app zq1 ?_) | exact Sel.one zq1)))
            · refine sr ?_; refine sm ?_; refine sm ?_; refine yq17 ?_; refine yq17 ?_; refine sp ?_; refine su ?_; refine su ?_; refine su ?_; refine su ?_; refine sp ?_; refine sT ?_; refine yq0 ?_; (exact K () _ _ trivial zq8 (by repeat (first | exact Sel.refl _ | exact Sel.nil | (refine Sel.cons zq1 ?_) | (refine Sel.app zq1 ?_) | exact Sel.one zq1)))
          rintro ⟨⟩ _
          refine yq33 ?_; refine yq23 ?_
          refine T.nextP ⟨i + 1, q1 || decide (r.b = (b : Int)), q2 || decide (r.e = (e : Int) + 1), q3 || (decide (r.b ≤ (b : Int)) && decide ((e : Int) + 1 ≤ r.e))⟩ ⟨by dsimp only; omega, ?_, ?_, ?_⟩ (by dsimp only; omega) zq8 (by repeat (first | exact Sel.refl _ | exact Sel.nil | (refine Sel.cons zq1 ?_) | (refine Sel.app zq1 ?_) | exact Sel.one zq1)) rfl
          · dsimp only; rw [n1]; unfold f1B; rw [hkd]; rfl
          · dsimp only; rw [n2]; unfold f2B; rw [hkd]; rfl
          · dsimp only; rw [n3]; unfold f3B; rw [hkd]; rfl
        · have hkd := decide_eq_false hk
          refine yq16 ?_; refine sC rfl (by omega) ?_; refine yq25 ?_; refine zs3 ?_; refine yq5 ?_; refine sy fun b19 => ?_; refine yq13 ?_; refine yq6 ?_; refine sm ?_; refine sv (PV.seql rfl rfl) ?_; refine so ?_; refine T.condF rfl (by assumption) ?_; refine T.skip ?_; refine yq33 ?_; refine yq23 ?_
          refine T.nextP ⟨i + 1, q1, q2, q3⟩ ⟨by dsimp only; omega, ?_, ?_, ?_⟩ (by dsimp only; omega) zq8 (by repeat (first | exact Sel.refl _ | exact Sel.nil | (refine Sel.cons zq1 ?_) | (refine Sel.app zq1 ?_) | exact Sel.one zq1)) rfl
          · dsimp only; rw [n1]; unfold f1B; rw [hkd]; simp
          · dsimp only; rw [n2]; unfold f2B; rw [hkd]; simp
          · dsimp only; rw [n3]; unfold f3B; rw [hkd]; simp
      · obtain rfl : i = c.rg.length := by omega
        rw [List.take_length] at i2 i3 i4
        have r1 := rowW_succ (wntB c kind) j1
        have r2 := rowW_succ (innB c kind) j1
        have w1 : wntB c kind b ((e : Int) + 1) = (q1 && q2 && decide (ixI (inT (b : Int)) c.tx = ixI (inT ((e : Int) + 1 - 1)) c.tx)) := by rw [i2, i3]; rfl
        have w2 : innB c kind b ((e : Int) + 1) = (wntB c kind b ((e : Int) + 1) && q3) := by rw [i4]; rfl
        have hno : wntB c kind b ((e : Int) + 1) = false → allW (wntB c kind) c.tk.length b ++ rowW (wntB c kind) b (e + 1) = allW (wntB c kind) c.tk.length b ++ rowW (wntB c kind) b e ∧ allW (innB c kind) c.tk.length b ++ rowW (innB c kind) b (e + 1) = allW (innB c kind) c.tk.length b ++ rowW (innB c kind) b e := by
          intro hw
          rw [r1, r2, w2, hw, if_neg (by simp), if_neg (by simp), List.append_nil, List.append_nil]
          exact ⟨rfl, rfl⟩
        clear i2 i3 i4
        have hlw : (allW (wntB c kind) c.tk.length b ++ rowW (wntB c kind) b e).length ≤ 1000 := by
          rw [List.length_append]
          have := hbound (wntB c kind) b g1
          have := rowW_len (wntB c kind) b e
          omega
        have hli : (allW (innB c kind) c.tk.length b ++ rowW (innB c kind) b e).length ≤ 1000 := by
          rw [List.length_append]
          have := hbound (innB c kind) b g1
          have := rowW_len (innB c kind) b e
          omega
        cases q1
        · obtain ⟨x1, x2⟩ := hno w1
          refine yq16 ?_; refine yq21 ?_; refine sq ?_; refine yq10 ?_; refine TQ.pv (PV.move rfl) Wanted.none rfl rfl ?_; refine TQ.pass (Unwanted.guard rfl rfl rfl) rfl rfl ?_; refine TQ.pv (PV.pickF rfl rfl rfl) Wanted.none rfl rfl ?_; refine TQ.pv (PV.move rfl) Wanted.none rfl rfl ?_; refine yq3 ?_; refine yq3 ?_; refine yq3 ?_; refine yq3 ?_; refine TQ.pv (PV.pickF rfl rfl rfl) Wanted.none rfl rfl ?_; refine TQ.nil ?_; refine yq7 ?_; refine T.blkEnd ?_; refine sr ?_; refine sm ?_; refine sv (PV.add rfl rfl (by omega)) ?_; refine yq0 ?_
          exact T.nextP ⟨e + 1, v, lv, u, lu⟩ ⟨by dsimp only; omega, by dsimp only; omega, by dsimp only; rw [x1]; exact j3, by dsimp only; rw [x2]; exact j4⟩ (by dsimp only; omega) zq8 (by repeat (first | exact Sel.refl _ | exact Sel.nil | (refine Sel.cons zq1 ?_) | (refine Sel.app zq1 ?_) | exact Sel.one zq1)) rfl
        cases q2
        · obtain ⟨x1, x2⟩ := hno w1
          refine yq16 ?_; refine yq21 ?_; refine sq ?_; refine yq10 ?_; refine TQ.pv (PV.move rfl) Wanted.none rfl rfl ?_; refine TQ.pv (PV.move rfl) (Wanted.guard rfl rfl rfl) rfl rfl ?_; refine TQ.pv (PV.pickT rfl rfl rfl) Wanted.none rfl rfl ?_; refine TQ.pv (PV.move rfl) Wanted.none rfl rfl ?_; refine yq3 ?_; refine yq3 ?_; refine yq3 ?_; refine yq3 ?_; refine TQ.pv (PV.pickF rfl rfl rfl) Wanted.none rfl rfl ?_; refine TQ.nil ?_; refine yq7 ?_; refine T.blkEnd ?_; refine sr ?_; refine sm ?_; refine sv (PV.add rfl rfl (by omega)) ?_; refine yq0 ?_
          exact T.nextP ⟨e + 1, v, lv, u, lu⟩ ⟨by dsimp only; omega, by dsimp only; omega, by dsimp only; rw [x1]; exact j3, by dsimp only; rw [x2]; exact j4⟩ (by dsimp only; omega) zq8 (by repeat (first | exact Sel.refl _ | exact Sel.nil | (refine Sel.cons zq1 ?_) | (refine Sel.app zq1 ?_) | exact Sel.one zq1)) rfl
        by_cases hx : ixI (inT (b : Int)) c.tx = ixI (inT ((e : Int) + 1 - 1)) c.tx
        · have hxd := decide_eq_true hx
          have hw : wntB c kind b ((e : Int) + 1) = true := by rw [w1, hxd]; rfl
          rw [hw, if_pos rfl] at r1
          refine yq16 ?_; refine yq21 ?_; refine sq ?_; refine yq10 ?_; refine TQ.pv (PV.move rfl) Wanted.none rfl rfl ?_; refine TQ.pv (PV.move rfl) (Wanted.guard rfl rfl rfl) rfl rfl ?_; refine TQ.pv (PV.pickT rfl rfl rfl) Wanted.none rfl rfl ?_; refine TQ.pv (PV.move rfl) Wanted.none rfl rfl ?_; refine TQ.pv (PV.loadAll rfl zq0 (by exact rfl)) (Wanted.guard rfl rfl rfl) rfl rfl ?_; refine TQ.pv (PV.move rfl) (Wanted.guard rfl rfl rfl) rfl rfl ?_; refine TQ.callV (Wanted.guard rfl rfl rfl) rfl rfl (hta _) ?_; refine TQ.pv (PV.loadAll rfl zq0 (by exact rfl)) (Wanted.guard rfl rfl rfl) rfl rfl ?_; refine TQ.pv (PV.move rfl) (Wanted.guard rfl rfl rfl) rfl rfl ?_; refine TQ.pv (PV.sub rfl rfl (by omega)) (Wanted.guard rfl rfl rfl) rfl rfl ?_; refine TQ.callV (Wanted.guard rfl rfl rfl) rfl rfl (hta _) ?_; refine TQ.pv (PV.eql rfl rfl) (Wanted.guard rfl rfl rfl) rfl rfl ?_; refine TQ.pv (PV.pickT rfl rfl rfl) Wanted.none rfl rfl ?_; refine TQ.nil ?_; refine T.condT rfl (by assumption) ?_; refine yq4 ?_; refine sm ?_; refine sm ?_; refine sv (PV.build rfl zq12) ?_; (refine T.buildSlice Wanted.none rfl rfl zq11 (by exact rfl) (by exact rfl) ?_; intro b137); refine T.appendP (lv := lv) Wanted.none rfl rfl rfl j3 (Src.cells (m := 1) (ys := encS ((b : Int), (e : Int) + 1)) (.own zq2) rfl rfl) (one_encS ((b : Int), (e : Int) + 1)) (by omega) zq1 ?_
          intro v2 lv2 hv2 _
          have hv3 := SpV.snoc hv2
          rw [List.append_assoc, ← r1] at hv3
          cases q3
          · rw [w2, hw, if_neg (by simp), List.append_nil] at r2
            rw [← r2] at j4
            refine yq14 ?_; refine yq23 ?_; refine yq7 ?_; refine T.blkEnd ?_; refine sr ?_; refine sm ?_; refine sv (PV.add rfl rfl (by omega)) ?_; refine yq0 ?_
            exact T.nextP ⟨e + 1, v2, lv2, u, lu⟩ ⟨by dsimp only; omega, by dsimp only; omega, hv3, j4⟩ (by dsimp only; omega) zq8 (by repeat (first | exact Sel.refl _ | exact Sel.nil | (refine Sel.cons zq1 ?_) | (refine Sel.app zq1 ?_) | exact Sel.one zq1)) rfl
          · rw [w2, hw, if_pos (by simp)] at r2
            refine yq14 ?_; refine yq23 ?_; refine T.condT rfl rfl ?_; refine sr ?_; refine sm ?_; refine sm ?_; refine sm ?_; refine sv (PV.build rfl zq12) ?_; (refine T.buildSlice Wanted.none rfl rfl zq11 (by exact rfl) (by exact rfl) ?_; intro b144); refine T.appendP (lv := lu) Wanted.none rfl rfl rfl j4 (Src.cells (m := 1) (ys := encS ((b : Int), (e : Int) + 1)) (.own zq2) rfl rfl) (one_encS ((b : Int), (e : Int) + 1)) (by omega) zq1 ?_
            intro u2 lu2 hu2 _
            have hu3 := SpV.snoc hu2
            rw [List.append_assoc, ← r2] at hu3
            refine yq0 ?_; refine T.blkEnd ?_; refine sr ?_; refine sm ?_; refine sv (PV.add rfl rfl (by omega)) ?_; refine yq0 ?_
            exact T.nextP ⟨e + 1, v2, lv2, u2, lu2⟩ ⟨by dsimp only; omega, by dsimp only; omega, hv3, hu3⟩ (by dsimp only; omega) zq8 (by repeat (first | exact Sel.refl _ | exact Sel.nil | (refine Sel.cons zq1 ?_) | (refine Sel.app zq1 ?_) | exact Sel.one zq1)) rfl
        · have hxd := decide_eq_false hx
          obtain ⟨x1, x2⟩ := hno (by rw [w1, hxd]; rfl)
          refine yq16 ?_; refine yq21 ?_; refine sq ?_; refine yq10 ?_; refine TQ.pv (PV.move rfl) Wanted.none rfl rfl ?_; refine TQ.pv (PV.move rfl) (Wanted.guard rfl rfl rfl) rfl rfl ?_; refine TQ.pv (PV.pickT rfl rfl rfl) Wanted.none rfl rfl ?_; refine TQ.pv (PV.move rfl) Wanted.none rfl rfl ?_; refine TQ.pv (PV.loadAll rfl zq0 (by exact rfl)) (Wanted.guard rfl rfl rfl) rfl rfl ?_; refine TQ.pv (PV.move rfl) (Wanted.guard rfl rfl rfl) rfl rfl ?_; refine TQ.callV (Wanted.guard rfl rfl rfl) rfl rfl (hta _) ?_; refine TQ.pv (PV.loadAll rfl zq0 (by exact rfl)) (Wanted.guard rfl rfl rfl) rfl rfl ?_; refine TQ.pv (PV.move rfl) (Wanted.guard rfl rfl rfl) rfl rfl ?_; refine TQ.pv (PV.sub rfl rfl (by omega)) (Wanted.guard rfl rfl rfl) rfl rfl ?_; refine TQ.callV (Wanted.guard rfl rfl rfl) rfl rfl (hta _) ?_; refine TQ.pv (PV.eql rfl rfl) (Wanted.guard rfl rfl rfl) rfl rfl ?_; refine TQ.pv (PV.pickT rfl rfl rfl) Wanted.none rfl rfl ?_; refine TQ.nil ?_; refine T.condF rfl (by assumption) ?_; refine T.skip ?_; refine T.blkEnd ?_; refine sr ?_; refine sm ?_; refine sv (PV.add rfl rfl (by omega)) ?_; refine yq0 ?_
          exact T.nextP ⟨e + 1, v, lv, u, lu⟩ ⟨by dsimp only; omega, by dsimp only; omega, by dsimp only; rw [x1]; exact j3, by dsimp only; rw [x2]; exact j4⟩ (by dsimp only; omega) zq8 (by repeat (first | exact Sel.refl _ | exact Sel.nil | (refine Sel.cons zq1 ?_) | (refine Sel.app zq1 ?_) | exact Sel.one zq1)) rfl
    · obtain rfl : e = c.tk.length := by omega
      rw [← allW_succ] at j3 j4
      refine sq ?_; refine yq4 ?_; refine yq12 ?_; refine sv (PV.leq rfl rfl) ?_; refine so ?_; refine yq21 ?_; refine T.blkEnd ?_; refine sr ?_; refine sm ?_; refine sv (PV.add rfl rfl (by omega)) ?_; refine yq0 ?_
      exact T.nextP ⟨b + 1, v, lv, u, lu⟩ ⟨by dsimp only; omega, j3, j4⟩ (by dsimp only; omega) zq8 (by repeat (first | exact Sel.refl _ | exact Sel.nil | (refine Sel.cons zq1 ?_) | (refine Sel.app zq1 ?_) | exact Sel.one zq1)) rfl
  · obtain rfl : b = c.tk.length := by omega
    have hbw := hbound (wntB c kind) _ (Nat.le_refl _)
    have hbi := hbound (innB c kind) _ (Nat.le_refl _)
    have hl7 : a7.length = (allW (wntB c kind) c.tk.length c.tk.length).length := by
      have := congrArg List.length hk7
      rw [List.length_map, List.length_map] at this; exact this
    have hl9 : a9.length = (allW (innB c kind) c.tk.length c.tk.length).length := by
      have := congrArg List.length hk9
      rw [List.length_map, List.length_map] at this; exact this
    have hs7 := spM_key3 hk7 (allW_sorted (wntB c kind) c.tk.length c.tk.length)
    have hs9 := spM_key3 hk9 (allW_sorted (innB c kind) c.tk.length c.tk.length)
    have hsub9 := regions_sub hg kind
    have hofl : (spansL ((ofL c.rg kind).map spOf)).length ≤ 1000 := by
      refine Nat.le_trans (spansL_len _) ?_
      rw [List.length_map]
      unfold ofL
      have := List.length_filter_le (fun p : Rg × Nat => decide (p.1.ty = kind)) c.rg.zipIdx
      rw [List.length_zipIdx] at this
      omega
    generalize allW (wntB c kind) c.tk.length c.tk.length = W at g2 hbw hl7 hs7
    generalize allW (innB c kind) c.tk.length c.tk.length = I at g3 hbi hl9 hs9 hsub9
    refine sq ?_; refine yq4 ?_; refine yq12 ?_; refine yq2 ?_; refine yq21 ?_; refine yq4 ?_; refine T.freezeP (lv := lv) g2 zq1 ?_
    intro H6 hle6 hW
    refine T.freezeP (lv := lu) g3 zq1 ?_
    intro H7 hle7 hI
    have hW7 := hW.mono hle7
    have hA7 := (hA5.mono hle6).mono hle7
    have ha77 := (((ha7.mono hle4).mono hle5).mono hle6).mono hle7
    have ha97 := (ha9.mono hle6).mono hle7
    obtain ⟨adw, capw, rfl⟩ := hW7.len
    obtain ⟨adi, capi, rfl⟩ := hI.len
    refine T.call Wanted.none rfl rfl (spans_fn a7 _ H7 ha77 (by omega)) ?_
    rintro v20 H8 hle8 hs8
    rw [hs7] at hs8
    have hO := spans_in c kind H8 (hA7.mono hle8) (by omega)
    unfold cpV at hO
    rw [e2, e4] at hO
    refine yq14 ?_; refine sv (PV.loadAll rfl zq0 (by exact rfl)) ?_; refine sm ?_; refine T.call Wanted.none rfl rfl hO ?_
    rintro v21 H9 hle9 hO9
    generalize spansL ((ofL c.rg kind).map spOf) = O at hsub9 hofl hO9
    obtain ⟨ad20, cap20, rfl⟩ := SlR.len hs8
    obtain ⟨ad21, cap21, rfl⟩ := SlR.len hO9
    have hle79 := hle8.trans hle9
    have hsm := (sameSp_fn W W _ _ H9 (hs8.mono hle9) (hW7.mono hle79) (by unfold maxLen; omega)).mono (R' := fun u _ => u = .bool true) fun u _ h => by rw [h, decide_eq_true rfl]
    refine yq28 ?_; refine sm ?_; refine T.callV Wanted.none rfl rfl (hsm) ?_; refine sm ?_; refine gm ?_; refine T.call zq22 rfl rfl (spans_fn a9 _ H9 (ha97.mono hle79) (by omega)) ?_
    rintro v30 H10 hle10 hs30
    rw [hs9] at hs30
    obtain ⟨ad30, cap30, rfl⟩ := SlR.len hs30
    have hsm2 := (sameSp_fn I I _ _ H10 hs30 (hI.mono (hle79.trans hle10)) (by unfold maxLen; omega)).mono (R' := fun u _ => u = .bool true) fun u _ h => by rw [h, decide_eq_true rfl]
    refine gm ?_; refine T.callV (Wanted.guard rfl rfl rfl) rfl rfl (hsm2) ?_; refine sT ?_; refine sm ?_; refine gm ?_; refine gm ?_; refine T.call zq22 rfl rfl (spans_fn a9 _ H10 (ha97.mono (hle79.trans hle10)) (by omega)) ?_
    rintro v31 H11 hle11 hs31
    rw [hs9] at hs31
    obtain ⟨ad31, cap31, rfl⟩ := SlR.len hs31
    refine T.call zq22 rfl rfl (subtract_fn O I _ _ H11 (hO9.mono (hle10.trans hle11)) hs31 hofl (by omega) hsub9) ?_
    rintro _ H12 hle12 ⟨ad32, cap32, rfl⟩
    refine gv (PV.lenSl rfl) ?_; refine gv (PV.eql rfl rfl) ?_; refine sT ?_; refine sm ?_; refine T.callV (Wanted.guard rfl rfl rfl) rfl rfl (haw _) ?_; refine sT ?_; refine yq0 ?_
    exact T.retF (Lv.fin (RV.tmp rfl rfl) rfl)

end Go.Proofs.YtbcadnjfegiakaaGreatDoor
