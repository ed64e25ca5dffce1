/- table: Grow, Concat, Merge: the program. -/
import Derived.Lib.AppendZeros
import Derived.Test.YthacphfjchpoaaaGreatDoorFTM
namespace Go.Proofs.YthacphfjchpoaaaGreatDoor
open Go.RowKit

section
variable {P : Program} {X : Cx} {e : Env} {l : List (Nat × Obj)} {H : Hp} {D : List Deferred} {k : List It} {all : Array Oper} {rest : List Oper} {dst : Option Tmp} {ty : TypeId} {pos : String} {after : Array Edge} {gd : Option (Nat × Bool)}
theorem PV.capSl {t el sz : Nat} [hs : SlOf P t el sz] {x : Operand} {ad : Option Addr} {n c : Nat} (hx : evE e x = some (.slice ad n c)) :
    PV P e l H ⟨dst, .call ⟨.builtin .cap, #[x], #[t]⟩, ty, pos, after, gd⟩ (.int .i64 (c : Int)) := PV.mk fun X D a w ha hw => by
  simp [execOp, resolve, invoke, builtin, ha.eval hx, Builtin.cap_, run_underlying hs.h, goInt]
theorem T.appendZ {t tn el sz bytes d : Nat} [hs : SlOf P t el sz] [he : ElOf P el sz bytes] [hn : IntT P tn .i64] {x y : Operand} {n : Nat}
    (hw : Wanted e all ⟨some d, .call ⟨.builtin .append, #[x, y], #[t, tn]⟩, ty, pos, after, gd⟩) (hN : Nat.blt d X.N = true) (hx : evE e x = some (.slice none 0 0)) (hy : evE e y = some (.int .i64 (n : Int)))
    (h0 : 0 < n) (hb : n * bytes ≤ 140737488355328 ∧ n ≤ 140737488355328)
    (h : ∀ b cap cs, n ≤ cap → cap ≤ maxLen → cs.length = cap * sz → T P X ((d, .slice (some ⟨b, 0, none⟩) n cap) :: e) ((b, .cells (List.toArray cs) el (0, 0)) :: l) H D (.ops all rest :: k)) :
    T P X e l H D (.ops all (⟨some d, .call ⟨.builtin .append, #[x, y], #[t, tn]⟩, ty, pos, after, gd⟩ :: rest) :: k) :=
  T.step hw rfl hN fun a w ha hw' => by
    obtain ⟨i, z, hi, hz, hsz, hby, hzs, hpos⟩ := he.h
    subst hsz hby
    have hr := Lib.run_append_nil_zeros (P := P) w t tn ty el i z .i64 .i64 hs.h hn.h hi hz n h0 hpos (by omega) (by omega)
    have hge := grownCap_ge w n 0 el
    have hcm : grownCap w n 0 el ≤ maxLen := grownCap_le_maxLen w n 0 el (by simp only [maxLen]; omega)
    obtain ⟨cs, hcs⟩ : ∃ cs : List Value, Builtin.zeroCells z.cells n ++ Builtin.zeroCells z.cells (grownCap w n 0 el - n) = cs.toArray := ⟨_, (Array.toArray_toList (xs := _)).symm⟩
    have hcl : cs.length = grownCap w n 0 el * i.size := by
      have := congrArg Array.size hcs
      simp [Builtin.zeroCells, hzs] at this
      rw [← this, ← Nat.add_mul]
      congr 1; omega
    rw [hcs] at hr
    refine ⟨_, _, H, w.drew.alloc (.cells cs.toArray el), ?_, hw'.drew.alloc _, h _ _ cs hge hcm hcl⟩
    simp [execOp, resolve, invoke, builtin, ha.eval hx, ha.eval hy, hr]
end
set_option maxHeartbeats 1000000 in
theorem grow_fn (n : Nat) (hn : n ≤ 100000) (H : Hp) : FnW Tryz.prog 83 #[.slice none 0 0, .int .i64 (n : Int)] H [] (fun u H' l' => H' = H ∧ Vec 52 2 u l' 0 []) := by
  refine FnW.of_T (vs := [.slice none 0 0, .int .i64 (n : Int)]) Tryz.func83 rfl rfl fun w => ?_; refine yq25 ?_; refine yq14 ?_; refine yq3 ?_; refine yq26 ?_; refine yq14 ?_; refine sm ?_; refine sv (PV.capSl rfl) ?_; refine yq83 ?_; refine sv (PV.sub rfl rfl (by omega)) ?_; refine yq77 ?_
  have hz : (n : Int) - (((0 : Nat) : Int) - ((0 : Nat) : Int)) = (n : Int) := by omega
  rw [hz]
  by_cases h0 : 0 < n
  · refine yq2 ?_; refine sv (PV.gtr rfl rfl) ?_; refine yq46 ?_; refine yq81 ?_; refine sm ?_; refine sv (PV.capSl rfl) ?_; refine sv (PV.sliceH rfl rfl (by omega)) ?_; refine sm ?_; refine T.appendZ Wanted.none rfl rfl rfl h0 (by omega) ?_
    intro b22 cap22 cs q1 q2 q3
    refine yq83 ?_; refine sv (PV.sliceH rfl rfl (by omega)) ?_; refine yq56 ?_; refine yq0 ?_
    exact T.retW (Lv.finW [(b22, .cells cs.toArray 52 (0, 0))] zq4 (RV.tmp rfl rfl) ⟨rfl, by simp, .inr ⟨b22, cap22, cs, rfl, rfl, Nat.zero_le _, q2, q3, by simp⟩⟩)
  · refine yq2 ?_; refine sv (PV.gtr rfl rfl) ?_; refine yq88 ?_; refine yq140 ?_
    exact T.retW (Lv.finW [] zq4 (RV.tmp rfl rfl) ⟨rfl, Vec.empty _ _ _⟩)
def szC (a b : Nat) : Nat → Nat
  | 0 => 0
  | 1 => a
  | _ => a + b
def coC (A B : List Rw) : Nat → List Rw
  | 0 => []
  | 1 => A
  | _ => A ++ B
structure CcG where
  i : Nat
  v : Value
  lv : List (Nat × Obj)
set_option maxHeartbeats 2000000 in
theorem concat_in (A B : List Rw) (va vb : Value) (b t : Nat) (fz : Nat × Nat) (H : Hp) (hA : RwL H va A) (hB : RwL H vb B) (hAl : A.length ≤ 1000) (hBl : B.length ≤ 1000) (hb : H b = some (.cells #[va, vb] t fz)) :
    Fn Tryz.prog 47 #[.slice (some ⟨b, 0, none⟩) 2 2] H (fun u H' => RwL H' u (A ++ B)) := by
  obtain ⟨aa, ca, rfl⟩ := hA.1.len
  obtain ⟨ab, cb, rfl⟩ := hB.1.len
  have s0 : SubC H b (0 + ((0 : Nat) : Int).toNat * 1) [.slice aa A.length ca] := ⟨_, _, _, hb, rfl⟩
  have s1 : SubC H b (0 + ((1 : Nat) : Int).toNat * 1) [.slice ab B.length cb] := ⟨_, _, _, hb, rfl⟩
  refine Fn.of_T (vs := [.slice (some ⟨b, 0, none⟩) 2 2]) Tryz.func47 rfl rfl fun w => ?_; refine zs3 ?_; refine yq23 ?_; refine yq0 ?_; refine yq112 ?_; refine T.loopK [(10, Value.int IntKind.i64 (↑2 : Int)), (9, Value.slice (some { block := b, off := 0 }) 2 2), (0, Value.slice (some { block := b, off := 0 }) 2 2)] zq8 (γ := Nat) (fun i => i ≤ 2) (fun i => [(11, .int .i64 (i : Int)), (3, .int .i64 (szC A.length B.length i : Int))]) (fun _ => []) (fun _ => H) (fun i => 2 - i) 0 (Nat.zero_le _) zq8 (by repeat (first | exact Sel.refl _ | exact Sel.nil | (refine Sel.cons zq1 ?_) | (refine Sel.app zq1 ?_) | exact Sel.one zq1)) rfl ?_
  intro i hi
  by_cases h0 : i = 0
  · subst h0
    have e1 : (szC A.length B.length 0 : Int) + (A.length : Int) = (szC A.length B.length 1 : Int) := by simp [szC]
    have e2 : (szC A.length B.length 0 : Int) = 0 := rfl
    have e3 : (szC A.length B.length 1 : Int) = A.length := rfl
    refine yq19 ?_; refine T.condT rfl rfl ?_; refine T.skip ?_; refine yq17 ?_; refine zs3 ?_; refine sv (PV.indexAddr rfl rfl (by omega)) ?_; refine sl ?_; refine yq56 ?_; refine yq83 ?_; refine yq63 ?_
    rw [e1]
    refine yq2 ?_; refine yq3 ?_; refine yq26 ?_; refine yq61 ?_
    exact T.nextP 1 (by omega) (by omega) zq8 (by repeat (first | exact Sel.refl _ | exact Sel.nil | (refine Sel.cons zq1 ?_) | (refine Sel.app zq1 ?_) | exact Sel.one zq1)) rfl
  by_cases h1 : i = 1
  · subst h1
    have e1 : (szC A.length B.length 1 : Int) + (B.length : Int) = (szC A.length B.length 2 : Int) := by simp [szC]
    have e2 : (szC A.length B.length 2 : Int) = A.length + B.length := by simp [szC]
    have e3 : (szC A.length B.length 1 : Int) = A.length := rfl
    refine yq19 ?_; refine T.condT rfl rfl ?_; refine T.skip ?_; refine yq17 ?_; refine zs3 ?_; refine sv (PV.indexAddr rfl rfl (by omega)) ?_; refine sl ?_; refine yq56 ?_; refine yq83 ?_; refine yq63 ?_
    rw [e1]
    refine yq2 ?_; refine yq3 ?_; refine yq26 ?_; refine yq61 ?_
    exact T.nextP 2 (by omega) (by omega) zq8 (by repeat (first | exact Sel.refl _ | exact Sel.nil | (refine Sel.cons zq1 ?_) | (refine Sel.app zq1 ?_) | exact Sel.one zq1)) rfl
  · obtain rfl : i = 2 := by omega
    have e2 : (szC A.length B.length 2 : Int) = ((A.length + B.length : Nat) : Int) := by simp [szC]
    rw [e2]
    refine yq19 ?_; refine yq142 ?_; refine yq2 ?_; (refine T.callW (l0 := []) Wanted.none rfl rfl (grow_fn (A.length + B.length) (by omega) H) zq1 ?_; rintro _ _ lv24 _ ⟨rfl, hv24⟩; obtain ⟨ad24, cap24, rfl⟩ := hv24.val); refine yq0 ?_; refine yq112 ?_
    rename_i H5 _
    refine T.loopK [(26, Value.int IntKind.i64 (↑2 : Int)), (25, Value.slice (some { block := b, off := 0 }) 2 2)] zq8 (γ := CcG) (fun g => g.i ≤ 2 ∧ Vec 52 2 g.v g.lv (szC A.length B.length g.i) ((coC A B g.i).flatMap encRw)) (fun g => [(27, .int .i64 (g.i : Int)), (6, g.v)]) (fun g => g.lv) (fun _ => _) (fun g => 2 - g.i) ⟨0, .slice ad24 0 cap24, lv24⟩ ⟨by simp, hv24⟩ zq8 (by repeat (first | exact Sel.refl _ | exact Sel.nil | (refine Sel.cons zq1 ?_) | (refine Sel.app zq1 ?_) | exact Sel.one zq1)) rfl ?_
    rintro ⟨i, v, lv⟩ ⟨j1, j2⟩
    dsimp only at j1 j2 ⊢
    obtain ⟨adv, capv, rfl⟩ := j2.val
    by_cases h0 : i = 0
    · subst h0
      have z0 : szC A.length B.length 0 = 0 := rfl
      refine yq19 ?_; refine T.condT rfl rfl ?_; refine T.skip ?_; refine yq17 ?_; refine zs3 ?_; refine sv (PV.indexAddr rfl rfl (by omega)) ?_; refine sl ?_; refine sa ?_; refine zs2 ?_; refine yq162 ?_; refine T.appendP (lv := lv) Wanted.none rfl rfl rfl j2 hA.1.src (one_flatW hA.2) (by omega) zq1 ?_
      intro v33 lv33 hv33 _
      obtain ⟨ad33, cap33, rfl⟩ := hv33.val
      refine yq0 ?_; refine yq61 ?_
      refine T.nextP ⟨1, _, lv33⟩ ⟨by dsimp only; omega, ?_⟩ (by dsimp only; omega) zq8 (by repeat (first | exact Sel.refl _ | exact Sel.nil | (refine Sel.cons zq1 ?_) | (refine Sel.app zq1 ?_) | exact Sel.one zq1)) rfl
      have e1 : szC A.length B.length 0 + A.length = szC A.length B.length 1 := by simp [szC]
      have e2 : (coC A B 0).flatMap encRw ++ A.flatMap encRw = (coC A B 1).flatMap encRw := by simp [coC]
      rw [e2] at hv33
      dsimp only
      rw [← e1]
      exact hv33
    by_cases h1 : i = 1
    · subst h1
      have z1 : szC A.length B.length 1 = A.length := rfl
      refine yq19 ?_; refine T.condT rfl rfl ?_; refine T.skip ?_; refine yq17 ?_; refine zs3 ?_; refine sv (PV.indexAddr rfl rfl (by omega)) ?_; refine sl ?_; refine sa ?_; refine zs2 ?_; refine yq162 ?_; (refine T.appendP (lv := lv) Wanted.none rfl rfl rfl j2 hB.1.src (one_flatW hB.2) (by omega) zq1 ?_; intro v33 lv33 hv33 _; obtain ⟨ad33, cap33, rfl⟩ := hv33.val); refine yq0 ?_; refine yq61 ?_
      refine T.nextP ⟨2, _, lv33⟩ ⟨by dsimp only; omega, ?_⟩ (by dsimp only; omega) zq8 (by repeat (first | exact Sel.refl _ | exact Sel.nil | (refine Sel.cons zq1 ?_) | (refine Sel.app zq1 ?_) | exact Sel.one zq1)) rfl
      have e1 : szC A.length B.length 1 + B.length = szC A.length B.length 2 := by simp [szC]
      have e2 : (coC A B 1).flatMap encRw ++ B.flatMap encRw = (coC A B 2).flatMap encRw := by simp [coC]
      rw [e2] at hv33
      dsimp only
      rw [← e1]
      exact hv33
    · obtain rfl : i = 2 := by omega
      refine yq19 ?_; refine yq142 ?_; refine yq140 ?_
      have hl : szC A.length B.length 2 = (A ++ B).length := by simp [szC]
      rw [show coC A B 2 = A ++ B from rfl, hl] at j2
      rw [hl]
      refine T.retF (Vec.freezeLv (l' := []) j2 (by rw [List.append_nil]; exact zq4) fun H' hleF hsl => Lv.fin (RV.tmp rfl rfl) ⟨hsl, fun x hx => ?_⟩)
      rcases List.mem_append.1 hx with hx | hx
      · exact (hA.2 x hx).mono hleF
      · exact (hB.2 x hx).mono hleF
theorem keysN_at {L : List Rw} {r0 : Rw} (h : L[0]? = some r0) : keysN (L.map rwK) = r0.ks.length := by
  cases L with
  | nil => simp at h
  | cons a l => simp at h; subst h; rfl
set_option maxHeartbeats 4000000 in
theorem merge_in (A B : List Rw) (va vb : Value) (H : Hp) (hT : PowT H) (hA : RwL H va A) (hB : RwL H vb B) (hAl : A.length ≤ 400) (hBl : B.length ≤ 400) (hAn : ∀ r ∈ A, r.n ≤ 1099511627776) (hBn : ∀ r ∈ B, r.n ≤ 1099511627776) :
    Fn Tryz.prog 27 #[va, vb] H (fun u H' => ∃ v' C, u = .tuple #[v', .int .i64 (mergeE (A.map rwK) (B.map rwK))] ∧ RwL H' v' C ∧ (mergeE (A.map rwK) (B.map rwK) = 0 → C.map rwK = sumR (A.map rwK ++ B.map rwK)) ∧ (mergeE (A.map rwK) (B.map rwK) ≠ 0 → C = [])) := by
  have hva := valid_in A va H hT hA (by omega)
  have hvb := valid_in B vb H hT hB (by omega)
  obtain ⟨aa, ca, rfl⟩ := hA.1.len
  obtain ⟨ab, cb, rfl⟩ := hB.1.len
  have hkA := fun (r0 : Rw) (h : A[0]? = some r0) => keysN_at h
  have hkB := fun (r0 : Rw) (h : B[0]? = some r0) => keysN_at h
  have hneA : A.map rwK ≠ [] ↔ 0 < A.length := by cases A <;> simp
  have hneB : B.map rwK ≠ [] ↔ 0 < B.length := by cases B <;> simp
  have hpA : ∀ x ∈ A, validR (A.map rwK) = true → 0 ≤ x.n := fun x hx hv => by have := (validR_mem hv (List.mem_map_of_mem hx)).2.2.2; have h2 : (rwK x).2 = x.n := rfl; omega
  have hpB : ∀ x ∈ B, validR (B.map rwK) = true → 0 ≤ x.n := fun x hx hv => by have := (validR_mem hv (List.mem_map_of_mem hx)).2.2.2; have h2 : (rwK x).2 = x.n := rfl; omega
  have hmap : (A ++ B).map rwK = A.map rwK ++ B.map rwK := List.map_append
  generalize hF : A.map rwK = F at *
  generalize hG : B.map rwK = G at *
  refine Fn.of_T (vs := [.slice aa A.length ca, .slice ab B.length cb]) Tryz.func27 rfl rfl fun w => ?_
  have hend : ∀ z : Int, z ≠ 0 → mergeE F G = z → ∃ v' C, (.tuple #[.slice none 0 0, .int .i64 z] : Value) = .tuple #[v', .int .i64 (mergeE F G)] ∧ RwL H v' C ∧ (mergeE F G = 0 → C.map rwK = sumR (F ++ G)) ∧ (mergeE F G ≠ 0 → C = []) :=
    fun z hz he => ⟨_, [], by rw [he], ⟨SlR.empty, by simp⟩, fun h => absurd (he.symm.trans h) hz, fun _ => rfl⟩
  cases hv : validR F
  · rw [hv] at hva
    refine yq136 ?_; refine yq14 ?_; refine T.callV Wanted.none rfl rfl (hva) ?_; refine yq107 ?_; refine yq8 ?_; refine sp ?_; refine yq157 ?_; refine yq136 ?_
    exact T.retF (Lv.fin (RV.tmp2 rfl rfl rfl) (hend 1 (by omega) (by unfold mergeE; rw [if_pos (.inl hv)])))
  rw [hv] at hva
  cases hw : validR G
  · rw [hw] at hvb
    refine yq136 ?_; refine yq14 ?_; refine T.callV Wanted.none rfl rfl (hva) ?_; refine yq107 ?_; refine gm ?_; refine T.callV (Wanted.guard rfl rfl rfl) rfl rfl (hvb) ?_; refine gv (PV.not rfl) ?_; refine sF ?_; refine yq36 ?_; refine yq136 ?_
    exact T.retF (Lv.fin (RV.tmp2 rfl rfl rfl) (hend 1 (by omega) (by unfold mergeE; rw [if_pos (.inr hw)])))
  rw [hw] at hvb
  have hbase : ¬ (validR F = false ∨ validR G = false) := by rw [hv, hw]; simp
  refine yq136 ?_; refine yq14 ?_; refine T.callV Wanted.none rfl rfl (hva) ?_; refine yq107 ?_; refine gm ?_; refine T.callV (Wanted.guard rfl rfl rfl) rfl rfl (hvb) ?_; refine gv (PV.not rfl) ?_; refine sF ?_; refine yq92 ?_
  (repeat refine sq ?_)
  refine T.cut2G [(0, Value.slice aa A.length ca), (1, Value.slice ab B.length cb)] (γ := Unit) (fun _ => mergeE F G = 0) (fun _ => []) (fun _ => []) ?_ fun K => ?_
  rotate_left
  · have hgo : ¬ (F ≠ [] ∧ G ≠ [] ∧ keysN F ≠ keysN G) → mergeE F G = 0 := fun h => by unfold mergeE; rw [if_neg hbase, if_neg h]
    by_cases c1 : 0 < A.length
    · have d1 : decide ((0 : Int) < (A.length : Int)) = true := decide_eq_true (by omega)
      by_cases c2 : 0 < B.length
      · have d2 : decide ((0 : Int) < (B.length : Int)) = true := decide_eq_true (by omega)
        obtain ⟨b0, off0, r0, rfl, h0x, hsub0⟩ := RowL.get encRw_len hA.1 c1
        obtain ⟨b1, off1, r1, rfl, h1x, hsub1⟩ := RowL.get encRw_len hB.1 c2
        obtain ⟨ar0, cr0, hr0v⟩ := (hA.2 r0 (List.mem_of_getElem? h0x)).1.len
        obtain ⟨ar1, cr1, hr1v⟩ := (hB.2 r1 (List.mem_of_getElem? h1x)).1.len
        unfold encRw at hsub0 hsub1
        rw [hr0v] at hsub0
        rw [hr1v] at hsub1
        have hsub0' : SubC H b0 (off0 + (0 : Int).toNat * 2) [.slice ar0 r0.ks.length cr0, .int .i64 r0.n] := hsub0
        have hsub1' : SubC H b1 (off1 + (0 : Int).toNat * 2) [.slice ar1 r1.ks.length cr1, .int .i64 r1.n] := hsub1
        have k0 := hkA r0 h0x
        have k1 := hkB r1 h1x
        by_cases c3 : r0.ks.length = r1.ks.length
        · have d3 : decide ((r0.ks.length : Int) ≠ (r1.ks.length : Int)) = false := decide_eq_false (by omega)
          refine yq39 ?_; refine TQ.pv (PV.lenSl rfl) Wanted.none rfl rfl ?_; refine yq89 ?_; refine TQ.pv (PV.move rfl) (Wanted.guard rfl rfl (by assumption)) rfl rfl ?_; refine yq76 ?_; refine TQ.pv (PV.pickT rfl (by assumption) rfl) Wanted.none rfl rfl ?_; refine TQ.pv (PV.move rfl) Wanted.none rfl rfl ?_; refine yq72 ?_; refine yq68 ?_; refine yq156 ?_; refine yq68 ?_; refine yq100 ?_; refine TQ.pv (PV.pickT rfl (by assumption) rfl) Wanted.none rfl rfl ?_; refine TQ.nil ?_; refine yq108 ?_
          refine K () _ _ (hgo fun h => h.2.2 (by rw [k0, k1, c3])) ?_ ?_; (focus exact zq8); (focus exact (by repeat (first | exact Sel.refl _ | exact Sel.nil | (refine Sel.cons zq1 ?_) | (refine Sel.app zq1 ?_) | exact Sel.one zq1)))
        · have d3 : decide ((r0.ks.length : Int) ≠ (r1.ks.length : Int)) = true := decide_eq_true (by omega)
          refine yq39 ?_; refine TQ.pv (PV.lenSl rfl) Wanted.none rfl rfl ?_; refine yq89 ?_; refine TQ.pv (PV.move rfl) (Wanted.guard rfl rfl (by assumption)) rfl rfl ?_; refine yq76 ?_; refine TQ.pv (PV.pickT rfl (by assumption) rfl) Wanted.none rfl rfl ?_; refine TQ.pv (PV.move rfl) Wanted.none rfl rfl ?_; refine yq72 ?_; refine yq68 ?_; refine yq156 ?_; refine yq68 ?_; refine yq100 ?_; refine TQ.pv (PV.pickT rfl (by assumption) rfl) Wanted.none rfl rfl ?_; refine TQ.nil ?_; refine T.condT rfl (by assumption) ?_; refine yq136 ?_
          exact T.retF (Lv.fin (RV.tmp2 rfl rfl rfl) (hend 15 (by omega) (by unfold mergeE; rw [if_neg hbase, if_pos ⟨hneA.2 c1, hneB.2 c2, by rw [k0, k1]; exact c3⟩])))
      · have d2 : decide ((0 : Int) < (B.length : Int)) = false := decide_eq_false (by omega)
        refine yq39 ?_; refine TQ.pv (PV.lenSl rfl) Wanted.none rfl rfl ?_; refine yq89 ?_; refine TQ.pv (PV.move rfl) (Wanted.guard rfl rfl (by assumption)) rfl rfl ?_; refine yq76 ?_; refine TQ.pv (PV.pickT rfl (by assumption) rfl) Wanted.none rfl rfl ?_; refine TQ.pv (PV.move rfl) Wanted.none rfl rfl ?_; refine yq34 ?_; refine yq34 ?_; refine yq34 ?_; refine yq34 ?_; refine yq34 ?_; refine TQ.pass (Unwanted.guard rfl rfl (by assumption)) rfl rfl ?_; refine TQ.pv (PV.pickF rfl (by assumption) rfl) Wanted.none rfl rfl ?_; refine TQ.nil ?_; refine yq26 ?_
        refine K () _ _ (hgo fun h => c2 (hneB.1 h.2.1)) ?_ ?_; (focus exact zq8); (focus exact (by repeat (first | exact Sel.refl _ | exact Sel.nil | (refine Sel.cons zq1 ?_) | (refine Sel.app zq1 ?_) | exact Sel.one zq1)))
    · have d1 : decide ((0 : Int) < (A.length : Int)) = false := decide_eq_false (by omega)
      refine yq39 ?_; refine TQ.pv (PV.lenSl rfl) Wanted.none rfl rfl ?_; refine yq89 ?_; refine yq34 ?_; refine TQ.pass (Unwanted.guard rfl rfl (by assumption)) rfl rfl ?_; refine yq85 ?_; refine yq4 ?_; refine yq4 ?_; refine yq4 ?_; refine yq4 ?_; refine yq132 ?_; refine yq193 ?_; refine yq26 ?_
      refine K () _ _ (hgo fun h => c1 (hneA.1 h.1)) ?_ ?_; (focus exact zq8); (focus exact (by repeat (first | exact Sel.refl _ | exact Sel.nil | (refine Sel.cons zq1 ?_) | (refine Sel.app zq1 ?_) | exact Sel.one zq1)))
  rintro ⟨⟩ h0
  dsimp only [List.nil_append]
  have hABn : ∀ x ∈ A ++ B, 0 ≤ x.n ∧ x.n ≤ 1099511627776 := by
    intro x hx
    rcases List.mem_append.1 hx with hx | hx
    · exact ⟨hpA x hx hv, hAn x hx⟩
    · exact ⟨hpB x hx hw, hBn x hx⟩
  refine yq137 ?_; (refine T.buildSlice Wanted.none rfl rfl zq11 (by exact rfl) (by exact rfl) ?_; intro b37); (refine T.freezeB (b := b37) zq1 ?_; intro H5 h5 j37; refine T.call Wanted.none rfl rfl (concat_in A B _ _ b37 _ _ H5 (hA.mono h5) (hB.mono h5) (by omega) (by omega) j37) ?_; rintro v38 H38 h38 hC; obtain ⟨a38, c38, rfl⟩ := hC.1.len); (refine T.call Wanted.none rfl rfl (sum_fn (A ++ B) _ H38 (hT.mono (h5.trans h38)) hC (by rw [List.length_append]; omega) hABn) ?_; rintro _ H39 h39 ⟨C, hC2, hCk⟩; obtain ⟨a39, c39, rfl⟩ := hC2.1.len); refine yq55 ?_
  exact T.retF (Lv.fin (RV.tmp2 rfl rfl rfl) ⟨_, C, by rw [h0], hC2, fun _ => by rw [hCk, hmap], fun h => absurd h0 h⟩)
end Go.Proofs.YthacphfjchpoaaaGreatDoor
