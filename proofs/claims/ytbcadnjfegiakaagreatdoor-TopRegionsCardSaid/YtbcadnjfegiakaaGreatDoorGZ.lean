/- subcorpus: Subtract, where nothing is left.
   the statement Regions: what the law compares. -/
import Derived.Lib.AppendZeros
import Derived.Test.YtbcadnjfegiakaaGreatDoorGY
namespace Go.Proofs.YtbcadnjfegiakaaGreatDoor
open Go.RowKit

section
variable {P : Program} {X : Cx} {e : Env} {l : List (Nat × Obj)} {H : Hp} {D : List Deferred} {k : List It} {all : Array Oper} {rest : List Oper} {dst : Option Tmp} {ty : TypeId} {pos : String} {after : Array Edge} {gd : Option (Nat × Bool)}
theorem PV.capSl {t el sz : Nat} [hs : SlOf P t el sz] {x : Operand} {ad : Option Addr} {n c : Nat} (hx : evE e x = some (.slice ad n c)) :
    PV P e l H ⟨dst, .call ⟨.builtin .cap, #[x], #[t]⟩, ty, pos, after, gd⟩ (.int .i64 (c : Int)) := PV.mk fun X D a w ha hw => by
  simp [execOp, resolve, invoke, builtin, ha.eval hx, Builtin.cap_, run_underlying hs.h, goInt]
theorem T.appendZ {t tn el sz bytes d : Nat} [hs : SlOf P t el sz] [he : ElOf P el sz bytes] [hn : IntT P tn .i64] {x y : Operand} {n : Nat}
    (hw : Wanted e all ⟨some d, .call ⟨.builtin .append, #[x, y], #[t, tn]⟩, ty, pos, after, gd⟩) (hN : Nat.blt d X.N = true) (hx : evE e x = some (.slice none 0 0)) (hy : evE e y = some (.int .i64 (n : Int)))
    (h0 : 0 < n) (hb : n * bytes ≤ 140737488355328 ∧ n ≤ 140737488355328)
    (h : ∀ b cap cs, n ≤ cap → cap ≤ maxLen → cs.length = cap * sz → T P X ((d, .slice (some ⟨b, 0, none⟩) n cap) :: e) ((b, .cells (List.toArray cs) el (0, 0)) :: l) H D (.ops all rest :: k)) :
    T P X e l H D (.ops all (⟨some d, .call ⟨.builtin .append, #[x, y], #[t, tn]⟩, ty, pos, after, gd⟩ :: rest) :: k) :=
  T.step hw rfl hN fun a w ha hw' => by
    obtain ⟨i, z, hi, hz, hsz, hby, hzs, hpos⟩ := he.h
    subst hsz hby
    have hr := Lib.run_append_nil_zeros (P := P) w t tn ty el i z .i64 .i64 hs.h hn.h hi hz n h0 hpos (by omega) (by omega)
    have hge := grownCap_ge w n 0 el
    have hcm : grownCap w n 0 el ≤ maxLen := grownCap_le_maxLen w n 0 el (by simp only [maxLen]; omega)
    obtain ⟨cs, hcs⟩ : ∃ cs : List Value, Builtin.zeroCells z.cells n ++ Builtin.zeroCells z.cells (grownCap w n 0 el - n) = cs.toArray := ⟨_, (Array.toArray_toList (xs := _)).symm⟩
    have hcl : cs.length = grownCap w n 0 el * i.size := by
      have := congrArg Array.size hcs
      simp [Builtin.zeroCells, hzs] at this
      rw [← this, ← Nat.add_mul]
      congr 1; omega
    rw [hcs] at hr
    refine ⟨_, _, H, w.drew.alloc (.cells cs.toArray el), ?_, hw'.drew.alloc _, h _ _ cs hge hcm hcl⟩
    simp [execOp, resolve, invoke, builtin, ha.eval hx, ha.eval hy, hr]
end
set_option maxHeartbeats 1000000 in
theorem grow_fn (n : Nat) (hn : n ≤ 100000) (H : Hp) : FnW Tryz.prog 179 #[.slice none 0 0, .int .i64 (n : Int)] H [] (fun u H' l' => H' = H ∧ Vec 57 2 u l' 0 []) := by
  refine FnW.of_T (vs := [.slice none 0 0, .int .i64 (n : Int)]) Tryz.func179 rfl rfl fun w => ?_; refine zs3 ?_; refine yq11 ?_; refine yq4 ?_; refine yq2 ?_; refine yq7 ?_; refine sq ?_; refine yq4 ?_; refine sm ?_; refine sv (PV.capSl rfl) ?_; refine sm ?_; refine sv (PV.lenSl rfl) ?_; refine sv (PV.sub rfl rfl (by omega)) ?_; refine sv (PV.sub rfl rfl (by omega)) ?_; refine yq0 ?_
  have hz : (n : Int) - (((0 : Nat) : Int) - ((0 : Nat) : Int)) = (n : Int) := by omega
  rw [hz]
  by_cases h0 : 0 < n
  · refine yq4 ?_; refine sv (PV.gtr rfl rfl) ?_; refine so ?_; refine sC rfl (by omega) ?_; refine sr ?_; refine sm ?_; refine sm ?_; refine sv (PV.capSl rfl) ?_; refine sv (PV.sliceH rfl rfl (by omega)) ?_; refine sm ?_; refine T.appendZ Wanted.none rfl rfl rfl h0 (by omega) ?_
    intro b22 cap22 cs q1 q2 q3
    refine sm ?_; refine sv (PV.lenSl rfl) ?_; refine sv (PV.sliceH rfl rfl (by omega)) ?_; refine yq28 ?_; refine yq0 ?_
    exact T.retW (Lv.finW [(b22, .cells cs.toArray 57 (0, 0))] zq4 (RV.tmp rfl rfl) ⟨rfl, by simp, .inr ⟨b22, cap22, cs, rfl, rfl, Nat.zero_le _, q2, q3, by simp⟩⟩)
  · refine yq4 ?_; refine sv (PV.gtr rfl rfl) ?_; refine so ?_; refine sd rfl (by omega) ?_; refine T.skip ?_; refine yq4 ?_; refine yq0 ?_
    exact T.retW (Lv.finW [] zq4 (RV.tmp rfl rfl) ⟨rfl, Vec.empty _ _ _⟩)
structure CcG where
  i : Nat
  v : Value
  lv : List (Nat × Obj)
set_option maxHeartbeats 2000000 in
theorem concat1_fn (A : List Sp) (va : Value) (b t : Nat) (fz : Nat × Nat) (H : Hp) (hA : SpL H va A) (hAl : A.length ≤ 1000) (hb : H b = some (.cells #[va] t fz)) :
    FnW Tryz.prog 106 #[.slice (some ⟨b, 0, none⟩) 1 1] H [] (fun u H' l' => H' = H ∧ SpV u l' A) := by
  obtain ⟨aa, ca, rfl⟩ := hA.len
  have s0 : SubC H b (0 + ((0 : Nat) : Int).toNat * 1) [.slice aa A.length ca] := ⟨_, _, _, hb, rfl⟩
  refine FnW.of_T (vs := [.slice (some ⟨b, 0, none⟩) 1 1]) Tryz.func106 rfl rfl fun w => ?_; refine zs3 ?_; refine yq14 ?_; refine yq11 ?_; refine yq30 ?_; refine yq35 ?_; refine T.loopK [(10, Value.int IntKind.i64 (↑1 : Int)), (9, Value.slice (some { block := b, off := 0 }) 1 1), (0, Value.slice (some { block := b, off := 0 }) 1 1)] zq8 (γ := Nat) (fun i => i ≤ 1) (fun i => [(11, .int .i64 (i : Int)), (3, .int .i64 (if i = 0 then 0 else (A.length : Int)))]) (fun _ => []) (fun _ => H) (fun i => 1 - i) 0 (Nat.zero_le _) zq8 (by repeat (first | exact Sel.refl _ | exact Sel.nil | (refine Sel.cons zq1 ?_) | (refine Sel.app zq1 ?_) | exact Sel.one zq1)) rfl ?_
  intro i hi
  by_cases h0 : i = 0
  · subst h0
    have e2 : (if (0 : Nat) = 0 then (0 : Int) else (A.length : Int)) = 0 := rfl
    rw [e2]
    have e1 : (0 : Int) + (A.length : Int) = (if (1 : Nat) = 0 then (0 : Int) else (A.length : Int)) := by rw [if_neg (by decide)]; omega
    refine yq16 ?_; refine T.condT rfl rfl ?_; refine yq25 ?_; refine zs3 ?_; refine sv (PV.indexAddr rfl rfl (by omega)) ?_; refine sl ?_; refine yq28 ?_; refine sm ?_; refine sv (PV.lenSl rfl) ?_; refine sv (PV.add rfl rfl (by omega)) ?_; refine yq0 ?_
    have e3 : (if (1 : Nat) = 0 then (0 : Int) else (A.length : Int)) = (A.length : Int) := by rw [if_neg (by decide)]
    rw [e1]
    refine yq4 ?_; refine yq2 ?_; refine yq7 ?_; refine yq33 ?_; refine yq23 ?_
    exact T.nextP 1 (by first | omega | (dsimp only; omega)) (by first | omega | (dsimp only; omega)) zq8 (by repeat (first | exact Sel.refl _ | exact Sel.nil | (refine Sel.cons zq1 ?_) | (refine Sel.app zq1 ?_) | exact Sel.one zq1)) rfl
  · obtain rfl : i = 1 := by omega
    have e2 : (if (1 : Nat) = 0 then (0 : Int) else (A.length : Int)) = (A.length : Int) := by rw [if_neg (by decide)]
    rw [e2]
    refine yq16 ?_; refine yq22 ?_; refine yq4 ?_; (refine T.callW (l0 := []) Wanted.none rfl rfl (grow_fn A.length (by omega) H) zq1 ?_; rintro _ _ lv24 _ ⟨rfl, hv24⟩; obtain ⟨ad24, cap24, rfl⟩ := hv24.val); refine yq11 ?_; refine yq30 ?_; refine yq35 ?_
    rename_i H5 _
    refine T.loopK [(26, Value.int IntKind.i64 (↑1 : Int)), (25, Value.slice (some { block := b, off := 0 }) 1 1)] zq8 (γ := CcG) (fun g => g.i ≤ 1 ∧ SpV g.v g.lv (if g.i = 0 then [] else A)) (fun g => [(27, .int .i64 (g.i : Int)), (6, g.v)]) (fun g => g.lv) (fun _ => _) (fun g => 1 - g.i) ⟨0, .slice ad24 0 cap24, lv24⟩ ⟨by simp, hv24⟩ zq8 (by repeat (first | exact Sel.refl _ | exact Sel.nil | (refine Sel.cons zq1 ?_) | (refine Sel.app zq1 ?_) | exact Sel.one zq1)) rfl ?_
    rintro ⟨i, v, lv⟩ ⟨j1, j2⟩
    dsimp only at j1 j2 ⊢
    by_cases h1 : i = 0
    · subst h1
      rw [if_pos rfl] at j2
      obtain ⟨adv, capv, rfl⟩ := j2.val
      refine yq16 ?_; refine T.condT rfl rfl ?_; refine yq25 ?_; refine zs3 ?_; refine sv (PV.indexAddr rfl rfl (by omega)) ?_; refine sl ?_; refine sa ?_; refine zs2 ?_; refine sm ?_; refine sm ?_; refine T.appendP (lv := lv) Wanted.none rfl rfl rfl j2 hA.src (one_flatS A) (by simp; omega) zq1 ?_
      intro v33 lv33 hv33 _
      obtain ⟨ad33, cap33, rfl⟩ := hv33.val
      refine yq0 ?_; refine yq33 ?_; refine yq23 ?_
      refine T.nextP ⟨1, _, lv33⟩ ⟨by dsimp only; omega, ?_⟩ (by dsimp only; omega) zq8 (by repeat (first | exact Sel.refl _ | exact Sel.nil | (refine Sel.cons zq1 ?_) | (refine Sel.app zq1 ?_) | exact Sel.one zq1)) rfl
      dsimp only
      rw [if_neg (by decide)]
      have h9 : ([] : List Sp).length + A.length = A.length := by simp
      rw [h9] at hv33 ⊢
      exact hv33
    · obtain rfl : i = 1 := by omega
      rw [if_neg (by decide)] at j2
      obtain ⟨adv, capv, rfl⟩ := j2.val
      refine yq16 ?_; refine yq22 ?_; refine yq4 ?_; refine yq0 ?_
      exact T.retW (Lv.finW lv zq4 (RV.tmp rfl rfl) ⟨rfl, j2⟩)
theorem sortedSp_fn (A : List Sp) (va : Value) (b t : Nat) (fz : Nat × Nat) (H : Hp) (hA : SpL H va A) (hAl : A.length ≤ 1000) (hb : H b = some (.cells #[va] t fz)) :
    FnW Tryz.prog 48 #[.slice (some ⟨b, 0, none⟩) 1 1] H [] (fun u H' l' => H' = H ∧ SpV u l' (spansL A)) := by
  refine FnW.of_T (vs := [.slice (some ⟨b, 0, none⟩) 1 1]) Tryz.func48 rfl rfl fun w => ?_; refine zs3 ?_; refine yq28 ?_; (refine T.callW (l0 := []) Wanted.none rfl rfl (concat1_fn A va b t fz H hA hAl hb) zq1 ?_; rintro v5 H5 lv5 _ ⟨hH5, hv5⟩); refine yq28 ?_
  have hH5 := hH5.symm
  subst hH5
  refine T.callW Wanted.none rfl rfl (sortG_fn 107 A v5 lv5 H (fun x y => compareC_fn x y H) hv5 (by omega)) zq1 ?_
  rintro _ H7 lv7 _ ⟨rfl, hH7, hv7⟩
  have hH7 := hH7.symm
  subst hH7
  refine zs1 ?_; refine sm ?_; refine T.callW Wanted.none rfl rfl (compact_fn _ _ lv7 H hv7 (by unfold sortC; rw [List.length_mergeSort]; omega)) zq1 ?_
  rintro u H9 lv9 _ ⟨hH9, hv9⟩
  have hH9 := hH9.symm
  subst hH9
  refine yq0 ?_
  exact T.retW (Lv.finW lv9 zq4 (RV.tmp rfl rfl) ⟨rfl, hv9⟩)
/-! ### whether a span is in a list -/
theorem indexSp_fn (l : List Sp) (s : Sp) (v : Value) (H : Hp) (hv : SpL H v l) (hl : l.length ≤ 1000000) (hs : s ∈ l) : Fn Tryz.prog 50 #[v, spV s] H (fun u _ => ∃ i : Nat, u = .int .i64 (i : Int)) := by
  obtain ⟨ad, cap, rfl⟩ := hv.len
  unfold spV
  refine Fn.of_T (vs := [.slice ad l.length cap, .agg #[.int .i64 s.1, .int .i64 s.2]]) Tryz.func50 rfl rfl fun w => ?_; refine zs3 ?_; (refine T.box Wanted.none rfl rfl zq15 ?_; intro b3); refine yq11 ?_; refine yq30 ?_; refine yq35 ?_; refine T.loopC [(7, Value.int IntKind.i64 (↑l.length : Int)), (3, Value.pointer (some { block := b3, off := 0 })), (0, Value.slice ad l.length cap)] zq8 8 l.length (fun i => ∀ x ∈ l.take i, x ≠ s) (by simp) rfl ?_
  rintro i ⟨hi0, hi1⟩
  by_cases hi : i < l.length
  · obtain ⟨b, off, x, rfl, hix, hsub⟩ := RowL.get encS_len hv hi
    unfold encS at hsub
    by_cases he : s.1 = x.1 ∧ s.2 = x.2
    · have he' := eqS_true he
      refine yq16 ?_; refine sC rfl (by omega) ?_; refine yq25 ?_; refine yq4 ?_; refine yq11 ?_; refine T.regionQ (by kernel_rfl) ?_; refine TQ.pv (PV.loadAll rfl zq0 (by exact rfl)) Wanted.none rfl rfl ?_; refine TQ.pv (PV.move rfl) Wanted.none rfl rfl ?_; refine yq18 ?_; refine TQ.pv (PV.loadSubAll rfl (by assumption) (by exact rfl)) Wanted.none rfl rfl ?_; refine TQ.pv (PV.aeql rfl rfl rfl rfl) Wanted.none rfl rfl ?_; refine TQ.nil ?_; refine T.condT rfl (by assumption) ?_; refine yq4 ?_; refine yq0 ?_
      exact T.retF (Lv.fin (RV.tmp rfl rfl) ⟨_, rfl⟩)
    · have he' := eqS_false he
      refine yq16 ?_; refine sC rfl (by omega) ?_; refine yq25 ?_; refine yq4 ?_; refine yq11 ?_; refine T.regionQ (by kernel_rfl) ?_; refine TQ.pv (PV.loadAll rfl zq0 (by exact rfl)) Wanted.none rfl rfl ?_; refine TQ.pv (PV.move rfl) Wanted.none rfl rfl ?_; refine yq18 ?_; refine TQ.pv (PV.loadSubAll rfl (by assumption) (by exact rfl)) Wanted.none rfl rfl ?_; refine TQ.pv (PV.aeql rfl rfl rfl rfl) Wanted.none rfl rfl ?_; refine TQ.nil ?_; refine T.condF rfl (by assumption) ?_; refine T.skip ?_; refine yq33 ?_; refine yq23 ?_
      refine T.nextC hi (fun y hy => ?_) rfl zq8 (by repeat (first | exact Sel.refl _ | exact Sel.nil | (refine Sel.cons zq1 ?_) | (refine Sel.app zq1 ?_) | exact Sel.one zq1))
      rw [List.take_add_one, hix] at hy
      rcases List.mem_append.1 hy with hy | hy
      · exact hi1 y hy
      · obtain rfl := List.mem_singleton.1 hy
        exact fun e => he (by rw [e]; exact ⟨rfl, rfl⟩)
  · rw [List.take_of_length_le (by omega)] at hi1
    exact absurd rfl (hi1 s hs)
theorem containsSp_fn (l : List Sp) (s : Sp) (v : Value) (H : Hp) (hv : SpL H v l) (hl : l.length ≤ 1000000) (hs : s ∈ l) : Fn Tryz.prog 29 #[v, spV s] H (fun u _ => u = .bool true) := by
  have hix := indexSp_fn l s v H hv hl hs
  unfold spV at *
  refine Fn.of_T (vs := [v, .agg #[.int .i64 s.1, .int .i64 s.2]]) Tryz.func29 rfl rfl fun w => ?_; refine zs3 ?_; (refine T.box Wanted.none rfl rfl zq15 ?_; intro b3); refine yq28 ?_; refine sv (PV.loadAll rfl zq0 (by exact rfl)) ?_; (refine T.callX Wanted.none rfl rfl hix ?_; rintro _ ⟨i, rfl⟩); refine sv (PV.geq rfl rfl) ?_; refine yq0 ?_
  exact T.retF (Lv.fin (RV.tmp rfl rfl) rfl)
/-! ### all are deleted -/
theorem indexOwn_fn (s : Sp) (l : List Sp) (tl : List Value) (b cap : Nat) (H : Hp) (gfn : FuncId) [hE : Ent Tryz.prog gfn] (cp : List Value) (hg : Fn Tryz.prog gfn (spV s :: cp).toArray H (fun u _ => u = .bool true)) :
    FnW Tryz.prog 105 #[.slice (some ⟨b, 0, none⟩) (s :: l).length cap, .func (.func gfn) #[] cp.toArray] H [(b, .cells ((s :: l).flatMap encS ++ tl).toArray 57 (0, 0))] (fun u H' l' => u = .int .i64 0 ∧ H' = H ∧ l' = [(b, .cells ((s :: l).flatMap encS ++ tl).toArray 57 (0, 0))]) := by
  have g1 := getE (l := s :: l) (i := 0) tl rfl
  unfold spV at hg
  refine FnW.of_T (vs := [.slice (some ⟨b, 0, none⟩) (s :: l).length cap, .func (.func gfn) #[] cp.toArray]) Tryz.func105 rfl rfl fun w => ?_
  have hpos : 0 < (s :: l).length := Nat.succ_pos _
  generalize hcs : (s :: l).flatMap encS ++ tl = cs at g1 ⊢
  generalize (s :: l).length = n at hpos ⊢
  refine zs3 ?_; refine yq11 ?_; refine yq30 ?_; refine yq35 ?_; refine T.loopK [(7, Value.int IntKind.i64 (↑n : Int)), (0, Value.slice (some { block := b, off := 0 }) n cap), (1, Value.func (Fn.func gfn) #[] cp.toArray)] zq8 (γ := Unit) (fun _ => True) (fun _ => [(8, .int .i64 ((0 : Nat) : Int))]) (fun _ => _) (fun _ => H) (fun _ => 0) () trivial zq8 (Sel.refl _) rfl ?_
  rintro _ _
  refine yq16 ?_; refine sC rfl (by omega) ?_; refine yq25 ?_; refine yq4 ?_; refine yq28 ?_; refine sm ?_; refine sm ?_; refine sv (PV.indexAddr rfl rfl (by omega)) ?_; refine sv (PV.loadAgg rfl zq0 (by assumption) (by exact rfl)) ?_; refine T.callF (cap := cp) Wanted.none rfl rfl rfl (by exact hg) ?_
  rintro _ H' hle rfl
  refine T.forget hle ?_ (Hp.le.refl _)
  refine so ?_; refine T.condT rfl rfl ?_; refine yq4 ?_; refine yq0 ?_
  exact T.retW (Lv.finW _ (List.Sublist.refl _) (RV.tmp rfl rfl) ⟨rfl, rfl, rfl⟩)
set_option maxHeartbeats 2000000 in
theorem delAll_fn (l : List Sp) (v : Value) (lv : List (Nat × Obj)) (H : Hp) (hv : SpV v lv l) (hl : l.length ≤ 1000000) (gfn : FuncId) [hE : Ent Tryz.prog gfn] (cp : List Value) (hg : ∀ s ∈ l, Fn Tryz.prog gfn (spV s :: cp).toArray H (fun u _ => u = .bool true)) :
    FnW Tryz.prog 47 #[v, .func (.func gfn) #[] cp.toArray] H lv (fun u H' l' => H' = H ∧ ∃ ad cap, u = .slice ad 0 cap) := by
  cases l with
  | nil =>
    obtain ⟨ad, cap, rfl⟩ := hv.val
    have hix : Fn Tryz.prog 105 #[.slice ad 0 cap, .func (.func gfn) #[] cp.toArray] H (fun u _ => u = .int .i64 (-1)) := by
      refine Fn.of_T (vs := [.slice ad 0 cap, .func (.func gfn) #[] cp.toArray]) Tryz.func105 rfl rfl fun w => ?_; refine zs3 ?_; refine yq11 ?_; refine yq30 ?_; refine yq35 ?_; refine T.loopR [(7, Value.int IntKind.i64 (↑0 : Int)), (0, Value.slice ad 0 cap), (1, Value.func (Fn.func gfn) #[] cp.toArray)] zq8 8 0 rfl ?_
      intro i hi
      obtain rfl : i = 0 := by omega
      refine yq16 ?_; refine yq22 ?_; refine zs3 ?_; refine yq0 ?_
      exact T.retF (Lv.fin (RV.tmp rfl rfl) rfl)
    refine FnW.of_T (vs := [.slice ad 0 cap, .func (.func gfn) #[] cp.toArray]) Tryz.func47 rfl rfl fun w => ?_; refine zs3 ?_; refine yq28 ?_; refine sm ?_; refine T.callV Wanted.none rfl rfl (hix) ?_; refine yq11 ?_; refine yq4 ?_; refine sv (PV.eql rfl rfl) ?_; refine so ?_; refine T.condT rfl rfl ?_; refine yq4 ?_; refine yq0 ?_
    exact T.retW (Lv.finW [] (List.nil_sublist _) (RV.tmp rfl rfl) ⟨rfl, _, _, rfl⟩)
  | cons s l =>
    have hne : (s :: l).flatMap encS ≠ [] := by intro h; have := congrArg List.length h; rw [flatS_len] at this; simp at this
    obtain ⟨b, cap', hve⟩ := hv.ptr (by simp)
    subst hve
    obtain ⟨_, r1, r2, tl, rfl, r3⟩ := hv.row hne
    have hix := indexOwn_fn s l tl b cap' H gfn cp (hg s List.mem_cons_self)
    have hge : ∀ i x, (s :: l)[i]? = some x → _ := fun i x hx => getE tl hx
    have hlen : (s :: l).length ≤ 1000000 := hl
    have hpos : 0 < (s :: l).length := Nat.succ_pos _
    have hge2 : ∀ i, i < (s :: l).length → ∃ x, x ∈ s :: l ∧ (s :: l)[i]? = some x := fun i hi => ⟨_, List.getElem_mem hi, List.getElem?_eq_getElem hi⟩
    generalize hL : s :: l = L at *
    refine FnW.of_T (vs := [.slice (some ⟨b, 0, none⟩) L.length cap', .func (.func gfn) #[] cp.toArray]) Tryz.func47 rfl rfl fun w => ?_; refine zs3 ?_; refine yq28 ?_; refine sm ?_; (refine T.callW Wanted.none rfl rfl hix zq1 ?_; rintro _ H10 l10 _ ⟨rfl, hH10, rfl⟩); refine yq11 ?_; refine yq4 ?_; refine sv (PV.eql rfl rfl) ?_; refine so ?_; refine yq7 ?_; refine sq ?_; refine yq4 ?_; refine sv (PV.add rfl rfl (by omega)) ?_; refine yq0 ?_; refine T.block ?_
    have hH10 := hH10.symm
    subst hH10
    refine T.loopK [(0, Value.slice (some { block := b, off := 0 }) L.length cap'), (1, Value.func (Fn.func gfn) #[] cp.toArray)] zq8 (γ := Nat) (fun j => 1 ≤ j ∧ j ≤ L.length) (fun j => [(6, .int .i64 (j : Int)), (5, .int .i64 0)]) (fun _ => [(b, .cells (L.flatMap encS ++ tl).toArray 57 (0, 0))]) (fun _ => H) (fun j => L.length - j) 1 ⟨Nat.le_refl 1, hpos⟩ zq8 (by repeat (first | exact Sel.refl _ | exact Sel.nil | (refine Sel.cons zq1 ?_) | (refine Sel.app zq1 ?_) | exact Sel.one zq1)) rfl ?_
    rintro j ⟨j1, j2⟩
    by_cases hj : j < L.length
    · obtain ⟨x, hxm, hx⟩ := hge2 j hj
      have g1 := hge j x hx
      have hgx := hg x hxm
      unfold spV at hgx
      refine sq ?_; refine yq4 ?_; refine sm ?_; refine sv (PV.lenSl rfl) ?_; refine yq2 ?_; refine sC rfl (by omega) ?_; refine yq25 ?_; refine yq4 ?_; refine sm ?_; refine sv (PV.indexAddr rfl rfl (by omega)) ?_; refine sv (PV.loadAgg rfl zq0 (by assumption) (by exact rfl)) ?_; refine sy fun b7 => ?_; refine yq13 ?_; refine sm ?_; refine sv (PV.loadAll rfl zq0 (by exact rfl)) ?_; refine T.callF (cap := cp) Wanted.none rfl rfl rfl (by exact hgx) ?_
      rintro _ H' hle rfl
      refine T.forget hle ?_ (Hp.le.refl _)
      refine sv (PV.not rfl) ?_; refine so ?_; refine yq7 ?_; refine T.blkEnd ?_; refine sr ?_; refine sm ?_; refine sv (PV.add rfl rfl (by omega)) ?_; refine yq0 ?_
      exact T.nextP (j + 1) ⟨by omega, by omega⟩ (by first | omega | (dsimp only; omega)) zq8 (by repeat (first | exact Sel.refl _ | exact Sel.nil | (refine Sel.cons zq1 ?_) | (refine Sel.app zq1 ?_) | exact Sel.one zq1)) rfl
    · refine sq ?_; refine yq4 ?_; refine sm ?_; refine sv (PV.lenSl rfl) ?_; refine yq2 ?_; refine yq21 ?_; refine yq4 ?_; refine sm ?_; refine sv (PV.sliceLP rfl rfl (by omega)) ?_; refine T.clearOwn [] Wanted.none rfl rfl rfl (by exact ⟨rfl, rfl, trivial⟩) (by rw [r3]; simp; omega) ?_
      intro zs hzs
      refine zs1 ?_; refine sm ?_; refine sm ?_; refine sv (PV.sliceH rfl rfl (by omega)) ?_; refine yq0 ?_
      exact T.retW (Lv.finW _ (List.Sublist.refl _) (RV.tmp rfl rfl) ⟨rfl, _, _, rfl⟩)
/-! ### Subtract -/
theorem sub1_fn (B : List Sp) (vb : Value) (s : Sp) (b : Nat) (H : Hp) (hB : SpL H vb B) (hBl : B.length ≤ 1000000) (hs : s ∈ B) (hb : H b = some (.cells #[vb] 51 (0, 0))) :
    Fn Tryz.prog 28 #[spV s, .pointer (some ⟨b, 0, none⟩)] H (fun u _ => u = .bool false) := by
  have hc := containsSp_fn B s vb H hB hBl hs
  unfold spV at *
  refine Fn.of_T (vs := [.agg #[.int .i64 s.1, .int .i64 s.2], .pointer (some ⟨b, 0, none⟩)]) Tryz.func28 rfl rfl fun w => ?_; refine zs3 ?_; (refine T.box Wanted.none rfl rfl zq15 ?_; intro b2); refine yq14 ?_; refine sl ?_; refine sv (PV.loadAll rfl zq0 (by exact rfl)) ?_; refine T.callV Wanted.none rfl rfl (hc) ?_; refine sv (PV.not rfl) ?_; refine yq0 ?_
  exact T.retF (Lv.fin (RV.tmp rfl rfl) rfl)
theorem keep1_fn (s : Sp) (b bf : Nat) (H : Hp) (hf : H bf = some (.cells #[.func (.func 28) #[] #[.pointer (some ⟨b, 0, none⟩)]] 83 (0, 0)))
    (hg : Fn Tryz.prog 28 #[spV s, .pointer (some ⟨b, 0, none⟩)] H (fun u _ => u = .bool false)) :
    Fn Tryz.prog 49 #[spV s, .pointer (some ⟨bf, 0, none⟩)] H (fun u _ => u = .bool true) := by
  unfold spV at *
  refine Fn.of_T (vs := [.agg #[.int .i64 s.1, .int .i64 s.2], .pointer (some ⟨bf, 0, none⟩)]) Tryz.func49 rfl rfl fun w => ?_; refine zs3 ?_; (refine T.box Wanted.none rfl rfl zq15 ?_; intro b2); refine yq14 ?_; refine sl ?_; refine sv (PV.loadAll rfl zq0 (by exact rfl)) ?_; refine T.callF (vs := [_]) (cap := [_]) Wanted.none rfl rfl rfl hg ?_
  rintro _ H' hle rfl
  refine sv (PV.not rfl) ?_; refine yq0 ?_
  exact T.retF (Lv.fin (RV.tmp rfl rfl) rfl)
theorem subtract_fn (A B : List Sp) (va vb : Value) (H : Hp) (hA : SpL H va A) (hB : SpL H vb B) (hAl : A.length ≤ 1000) (hBl : B.length ≤ 1000000) (hAB : ∀ s ∈ A, s ∈ B) :
    Fn Tryz.prog 11 #[va, vb] H (fun u _ => ∃ ad cap, u = .slice ad 0 cap) := by
  have hkeep : ∀ (H' : Hp) (b : Nat), H.le H' → H' b = some (.cells #[vb] 51 (0, 0)) → Fn Tryz.prog 27 #[va, .func (.func 28) #[] #[.pointer (some ⟨b, 0, none⟩)]] H' (fun u _ => ∃ ad cap, u = .slice ad 0 cap) := by
    intro H' b hle hb
    obtain ⟨ada, capa, rfl⟩ := hA.len
    refine Fn.of_T (vs := [.slice ada A.length capa, .func (.func 28) #[] #[.pointer (some ⟨b, 0, none⟩)]]) Tryz.func27 rfl rfl fun w => ?_; refine zs3 ?_; (refine T.box Wanted.none rfl rfl zq15 ?_; intro b3); refine yq0 ?_; refine T.freezeB (b := b3) zq1 ?_
    intro H1 hle1 hb3
    refine yq4 ?_; (refine T.buildSlice Wanted.none rfl rfl zq11 (by exact rfl) (by exact rfl) ?_; intro b6); refine T.freezeB (b := b6) zq1 ?_
    intro H2 hle2 hb6
    refine T.callW (l0 := []) Wanted.none rfl rfl (sortedSp_fn A _ b6 _ _ H2 (hA.mono ((hle.trans hle1).trans hle2)) hAl hb6) zq1 ?_
    rintro v7 H7 lv7 _ ⟨hH7, hv7⟩
    have hH7 := hH7.symm
    subst hH7
    obtain ⟨ad7, cap7, rfl⟩ := hv7.val
    have hls := spansL_len A
    have hdel := delAll_fn (spansL A) _ lv7 H2 hv7 (by omega) 49 [.pointer (some ⟨b3, 0, none⟩)] (fun s hs => keep1_fn s b b3 H2 (hle2 _ _ hb3)
      (sub1_fn B vb s b H2 (hB.mono ((hle.trans hle1).trans hle2)) hBl (hAB s ((spansL_mem A s).1 hs)) (hle2 _ _ (hle1 _ _ hb))))
    refine sv (PV.makeFunc rfl) ?_; refine T.callW Wanted.none rfl rfl hdel zq1 ?_
    rintro _ H9 lv9 _ ⟨hH9, ad9, cap9, rfl⟩
    have hH9 := hH9.symm
    subst hH9
    refine yq0 ?_
    exact T.retF (Lv.fin (RV.tmp rfl rfl) ⟨_, _, rfl⟩)
  obtain ⟨ada, capa, rfl⟩ := hA.len
  obtain ⟨adb, capb, rfl⟩ := hB.len
  refine Fn.of_T (vs := [.slice ada A.length capa, .slice adb B.length capb]) Tryz.func11 rfl rfl fun w => ?_; refine zs3 ?_; (refine T.box Wanted.none rfl rfl zq15 ?_; intro b3); refine yq0 ?_; refine T.freezeB (b := b3) zq1 ?_
  intro H1 hle1 hb3
  refine yq4 ?_; refine sv (PV.makeFunc rfl) ?_; (refine T.callX Wanted.none rfl rfl (hkeep H1 b3 hle1 hb3) ?_; rintro _ ⟨ad7, cap7, rfl⟩); refine yq0 ?_
  exact T.retF (Lv.fin (RV.tmp rfl rfl) ⟨_, _, rfl⟩)
end Go.Proofs.YtbcadnjfegiakaaGreatDoor
namespace Go.Proofs.YtbcadnjfegiakaaGreatDoor
open Go.RowKit


set_option maxHeartbeats 1000000 in
theorem sameSp_fn (l m : List Sp) (v u : Value) (H : Hp) (hv : SpL H v l) (hu : SpL H u m) (hml : l.length ≤ maxLen) : Fn Tryz.prog 10 #[v, u] H (fun v _ => v = .bool (decide (l = m))) := by
  obtain ⟨adv, capv, rfl⟩ := hv.len
  obtain ⟨adu, capu, rfl⟩ := hu.len
  refine Fn.of_T (vs := [.slice adv l.length capv, .slice adu m.length capu]) Tryz.func10 rfl rfl fun w => ?_
  unfold maxLen at hml
  by_cases hlen : l.length = m.length
  · refine zs3 ?_; refine yq11 ?_; refine yq30 ?_; refine sm ?_; refine sv (PV.lenSl rfl) ?_; refine yq29 ?_; refine sd rfl (by omega) ?_; refine T.skip ?_; refine sq ?_; refine yq30 ?_; refine yq35 ?_
    refine T.loop (γ := Nat) (fun j => j ≤ l.length ∧ l.take j = m.take j)
      (fun j => [(0, .slice adv l.length capv), (1, .slice adu m.length capu), (13, .int .i64 (j : Int)), (12, .int .i64 (l.length : Int))])
      (fun _ => []) (fun _ => H) (fun j => l.length - j) 0 ⟨by simp, by simp⟩ zq8 zq4 rfl ?_
    rintro j ⟨j1, j2⟩
    by_cases hj : j < l.length
    · obtain ⟨x, hxj⟩ : ∃ x, l[j]? = some x := ⟨_, List.getElem?_eq_getElem hj⟩
      obtain ⟨y, hyj⟩ : ∃ y, m[j]? = some y := ⟨_, List.getElem?_eq_getElem (by omega)⟩
      obtain ⟨bv, offv, rfl, hsubv⟩ := hv.span hxj
      obtain ⟨bu, offu, rfl, hsubu⟩ := hu.span hyj
      refine yq16 ?_; refine sC rfl (by omega) ?_; refine yq25 ?_; refine yq4 ?_; refine yq11 ?_; refine yq10 ?_; refine yq18 ?_; refine TQ.pv (PV.loadSubAll rfl (by assumption) (by exact rfl)) Wanted.none rfl rfl ?_; refine TQ.pv (PV.move rfl) Wanted.none rfl rfl ?_; refine yq18 ?_; refine TQ.pv (PV.loadSubAll rfl (by assumption) (by exact rfl)) Wanted.none rfl rfl ?_; refine TQ.pv (PV.aneq rfl rfl rfl rfl) Wanted.none rfl rfl ?_; refine TQ.nil ?_
      rw [eqS_eq]
      refine T.cond rfl (fun hc => ?_) (fun hc => ?_)
      · have hne : ¬ x = y := by simpa using hc
        refine zs3 ?_; refine yq0 ?_
        refine T.retF (Lv.fin (RV.tmp rfl rfl) ?_)
        rw [decide_eq_false]
        rintro rfl
        rw [hxj] at hyj
        exact hne (Option.some.inj hyj)
      · have heq : x = y := by simpa using hc
        refine T.skip ?_; refine yq33 ?_; refine yq23 ?_
        exact T.next (j + 1) ⟨by omega, by rw [List.take_add_one, List.take_add_one, j2, hxj, hyj, heq]⟩ (by omega) zq8 zq4 rfl
    · rw [List.take_of_length_le (by omega), List.take_of_length_le (by omega)] at j2
      refine yq16 ?_; refine yq21 ?_; refine zs3 ?_; refine yq0 ?_
      exact T.retF (Lv.fin (RV.tmp rfl rfl) (by rw [decide_eq_true j2]))
  · refine zs3 ?_; refine yq11 ?_; refine yq30 ?_; refine sm ?_; refine sv (PV.lenSl rfl) ?_; refine yq29 ?_; refine sC rfl (by omega) ?_; refine zs3 ?_; refine yq0 ?_
    refine T.retF (Lv.fin (RV.tmp rfl rfl) ?_)
    rw [decide_eq_false]
    rintro rfl
    exact hlen rfl
/-- the filter of the law -/
def fW (kind : ByteArray) : Fl := ⟨1, false, kind⟩
theorem okF_nil : okF [] := fun f hf => by cases hf
theorem okF_W {kind : ByteArray} (hn : validName kind = true) : okF [fW kind] := fun f hf => by
  obtain rfl := List.mem_singleton.1 hf
  exact ⟨⟨show (1 : Int) ≤ 1 by decide, show (1 : Int) ≤ 3 by decide⟩, hn⟩
theorem passS_nil (c : Cp) (l : List Sp) : l.filter (passS c []) = l := List.filter_eq_self.2 fun _ _ => rfl
theorem passS_W {c : Cp} {kind : ByteArray} (hn : validName kind = true) {s : Sp} (hs : 0 ≤ s.1 ∧ s.1 < s.2 ∧ s.2 ≤ (c.tk.length : Int)) : passS c [fW kind] s = hldB c.rg kind s.1 s.2 := by
  have hfe : flErr (fW kind) = 0 := by
    unfold flErr fW
    dsimp only
    rw [if_neg (by decide), if_pos hn]
  have hno : ¬ offB c.tk.length (fW kind) s := by unfold offB; rw [hfe]; omega
  unfold passS holdsB
  rw [List.all_cons, List.all_nil, Bool.and_true, if_neg hno]
  unfold someB hldB fW relB
  dsimp only
  rw [Bool.bne_false]
  congr 1
theorem inner_eq {c : Cp} {kind : ByteArray} (hn : validName kind = true) : (allW (wntB c kind) c.tk.length c.tk.length).filter (passS c [fW kind]) = allW (innB c kind) c.tk.length c.tk.length := by
  have : (allW (wntB c kind) c.tk.length c.tk.length).filter (passS c [fW kind]) = (allW (wntB c kind) c.tk.length c.tk.length).filter fun s => hldB c.rg kind s.1 s.2 := by
    apply List.filter_congr
    intro s hs
    obtain ⟨i, e, h1, h2, h3, h4, rfl⟩ := allW_mem.1 hs
    exact passS_W hn ⟨by dsimp only; omega, by dsimp only; omega, by dsimp only; omega⟩
  rw [this, filter_allW]
  rfl
theorem regions_sub {c : Cp} (hg : cpGood c) (kind : ByteArray) : ∀ s ∈ spansL ((ofL c.rg kind).map spOf), s ∈ allW (innB c kind) c.tk.length c.tk.length := by
  intro s hs
  rw [spansL_mem] at hs
  obtain ⟨⟨r, i⟩, hr, rfl⟩ := List.mem_map.1 hs
  have hk : r.ty = kind := by
    have := (List.mem_filter.1 hr).2
    simpa using this
  exact region_in hg kind (ofL_mem hr) hk
theorem any_snoc {l : List Rg} {i : Nat} {r : Rg} (f : Rg → Bool) (h : l[i]? = some r) : (l.take (i + 1)).any f = ((l.take i).any f || f r) := by
  rw [List.take_add_one, h, List.any_append]; simp
def f1B (kind : ByteArray) (b : Int) (r : Rg) : Bool := decide (r.ty = kind) && decide (r.b = b)
def f2B (kind : ByteArray) (e : Int) (r : Rg) : Bool := decide (r.ty = kind) && decide (r.e = e)
def f3B (kind : ByteArray) (b e : Int) (r : Rg) : Bool := decide (r.ty = kind) && (decide (r.b ≤ b) && decide (e ≤ r.e))

end Go.Proofs.YtbcadnjfegiakaaGreatDoor
