/- table: the statement Raw.
   lines: arguments that are a match, a key.
   table: an argument that is a slice of groups. -/
import Derived.Deep.Slices
import Derived.Deep.Fields
import Derived.Test.YthacphfjchpoaaaGreatDoorFTZa
namespace Go.Proofs.YthacphfjchpoaaaGreatDoor
open Go.RowKit

set_option maxHeartbeats 8000000 in
theorem rawT_law (l : List Int) (gs : List Gp) (m : Mt) (v vg : Value) (H : Hp) (hT : PowT H) (hv : InL H v l) (hl : l.length ≤ 9223372036854775807) (hr : I64 l) (hg0 : GpL H vg gs) (hm : InL H m.v m.ls) :
    Fn Tryz.prog 4 #[v, vg, mtV m] H (fun u _ => u = .bool true) := by
  obtain ⟨al, cl, hmv⟩ := hm.len
  obtain ⟨ag, cg, rfl⟩ := hg0.len
  unfold mtV
  rw [hmv]
  refine Fn.of_T (vs := [v, .slice ag gs.length cg, .agg #[.int .i64 m.b, .int .i64 m.e, .slice al m.ls.length cl]]) Tryz.func4 rfl rfl fun w => ?_
  by_cases h6 : 6 < gs.length
  · refine zs3 ?_; (refine T.box Wanted.none rfl rfl zq15 ?_; intro b5); refine yq0 ?_; refine yq176 ?_; refine sm ?_; refine T.setT (d := 15) rfl (by omega) ?_; refine yq66 ?_; refine yq157 ?_; refine yq25 ?_
    exact T.retF (Lv.fin (RV.tmp rfl rfl) rfl)
  by_cases h4 : 4 < m.ls.length
  · refine zs3 ?_; (refine T.box Wanted.none rfl rfl zq15 ?_; intro b5); refine yq0 ?_; refine yq176 ?_; refine sm ?_; refine T.setF (d := 15) rfl (by omega) ?_; refine yq96 ?_; refine gv (PV.gtr rfl rfl) ?_; refine sF ?_; refine yq46 ?_; refine yq25 ?_
    exact T.retF (Lv.fin (RV.tmp rfl rfl) rfl)
  refine zs3 ?_; (refine T.box Wanted.none rfl rfl zq15 ?_; intro b5); refine yq0 ?_; refine yq176 ?_; refine sm ?_; refine T.setF (d := 15) rfl (by omega) ?_; refine yq96 ?_; refine gv (PV.gtr rfl rfl) ?_; refine sF ?_; refine yq88 ?_; refine yq2 ?_; refine T.callW (l0 := []) Wanted.none rfl rfl (new_fn l v H hv hl hr) zq1 ?_
  rintro _ _ _ _ ⟨rfl, bt, t, rfl, ht, rfl⟩
  skip
  refine T.callW Wanted.none rfl rfl (corpus_fnN bt t 5 H ht (by omega)) zq1 ?_
  rintro _ H1 _ hle1 ⟨t1, c, rfl, ht1, hc, hg, hb, hnm, rfl⟩
  have hw := wideG hg
  have hlab : LabOk H1 m := ⟨hm.mono hle1, by omega⟩
  have hls : m.ls.length ≤ 1000 := by omega
  have hls1 : ∀ x ∈ [m], x.ls.length ≤ 1000 := fun x hx => by rw [List.mem_singleton] at hx; subst hx; exact hls
  have hgs : GpL H1 (.slice ag gs.length cg) gs := SlR.mono hg0 hle1
  have hT1 := hT.mono hle1
  have ci := fun H' (h : H1.le H') vl vm (hl : StL H' vl [bs [120]]) (hm : MtL H' vm [m]) => count_in c [bs [120]] vl [m] vm gs (.slice ag gs.length cg) H' (hT1.mono h) (hc.mono h) hw hl (by simp) hm (by simp) hls1 (SlR.mono hgs h) (by omega)
  have cr := fun H' (h : H1.le H') vl vm (hl : StL H' vl [bs [120]]) (hm : MtL H' vm [m]) => count_ref c [bs [120]] vl [m] vm gs (.slice ag gs.length cg) H' (hc.mono h) hw hl (by simp) hm (by simp) hls1 (SlR.mono hgs h) (by omega)
  have ki := fun H' (h : H1.le H') vl (hl : StL H' vl [bs [120]]) => keys_in c [bs [120]] vl m gs (.slice ag gs.length cg) H' (hT1.mono h) (hc.mono h) hw hl (hlab.mono h) hls (SlR.mono hgs h) (by omega)
  have kr := fun H' (h : H1.le H') vl (hl : StL H' vl [bs [120]]) => keys_ref c [bs [120]] vl m gs (.slice ag gs.length cg) H' (hc.mono h) hw hl (hlab.mono h) hls (SlR.mono hgs h) (by omega)
  have hRl := countR_len c [bs [120]] [m] gs
  have hte := texts_eq (keysO c [bs [120]] m gs) (by have := keysO_len (c := c) (lb := [bs [120]]) (m := m) (gs := gs); omega)
  generalize countR c [bs [120]] [m] gs = R at ci cr hRl
  generalize countE c [bs [120]] [m] gs = z at ci cr
  generalize keysO c [bs [120]] m gs = K at ki kr hte
  unfold cpV at ci cr ki kr
  unfold mtV at ki kr
  rw [hmv] at ki kr
  unfold cpV
  refine sy fun b7 => ?_; (refine T.storeA Wanted.none rfl rfl (cp_one hc) (by exact rfl) zq14 zq13 ?_); refine so ?_
  (repeat refine sq ?_)
  refine T.cutHq (γ := RwQ) [(7, Value.pointer (some { block := b7, off := 0 })), (5, Value.pointer (some { block := b5, off := 0 })), (1, Value.slice ag gs.length cg)] (fun g => H1.le g.H ∧ RwL g.H g.v g.A ∧ (z = 0 → g.A.map rwK = R) ∧ (z ≠ 0 → g.A = [])) (fun g => [(8, g.v), (9, .int .i64 z)]) (fun _ => [(b7, .cells #[c.va, c.vt, c.vx, c.vr, c.vn, c.vh, c.vs] 32 (0, 0)), (b5, .cells #[.int .i64 m.b, .int .i64 m.e, .slice al m.ls.length cl] 44 (0, 0))]) (fun g => g.H) ?_ fun K => ?_
  rotate_left
  · refine T.regionO [(b7, .cells #[c.va, c.vt, c.vx, c.vr, c.vn, c.vh, c.vs] 32 (0, 0)), (b5, .cells #[.int .i64 m.b, .int .i64 m.e, .slice al m.ls.length cl] 44 (0, 0))] (by kernel_rfl) ?_; refine yq123 ?_; refine TO.take 4 rfl (by kernel_rfl) (by kernel_rfl) (by kernel_rfl) (PV.move rfl) Wanted.none rfl rfl ?_; refine TO.both 1 3 rfl rfl (by kernel_rfl) zq4 zq19 ?_ ?_
    · (refine T.call Wanted.none rfl rfl (labels35_fn _) ?_; intro v26 H26 hle26 hv26; obtain ⟨ad26, cap26, rfl⟩ := hv26.len); refine yq62 ?_; refine TO.step 3 rfl (by kernel_rfl) zq4 zq19 ?_; (refine T.buildSlice Wanted.none rfl rfl zq11 (by exact rfl) (by exact rfl) ?_; intro b28); refine yq62 ?_; refine TO.step 5 rfl (by kernel_rfl) zq4 zq19 ?_; (refine T.freezeB (b := b28) zq1 ?_; intro H8 l8 j1; refine T.call Wanted.none rfl rfl (ci H8 zq21 _ _ (SlR.mono hv26 zq21) (mt_blk hmv j1 (hlab.mono zq21))) ?_; rintro _ H30 h30 ⟨_, A1, rfl, hA1, qa1, qb1⟩; obtain ⟨aa1, ca1, rfl⟩ := hA1.1.len); refine yq62 ?_; refine TO.take 6 rfl (by kernel_rfl) (by kernel_rfl) (by kernel_rfl) (PV.move rfl) Wanted.none rfl rfl ?_; refine TO.take 7 rfl (by kernel_rfl) (by kernel_rfl) (by kernel_rfl) (PV.extract rfl rfl) Wanted.none rfl rfl ?_; refine TO.take 8 rfl (by kernel_rfl) (by kernel_rfl) (by kernel_rfl) (PV.extract rfl rfl) Wanted.none rfl rfl ?_; refine yq125 ?_; refine TO.done (by kernel_rfl) zq4 zq19 ?_; (exact K ⟨_, _, A1⟩ _ _ _ ⟨zq21, hA1, qa1, qb1⟩ zq8 (by repeat (first | exact Sel.refl _ | exact Sel.nil | (refine Sel.cons zq1 ?_) | (refine Sel.app zq1 ?_) | exact Sel.one zq1)) rfl)
    · (refine T.buildSlice Wanted.none rfl rfl zq11 (by exact rfl) (by exact rfl) ?_; intro b28); refine yq62 ?_; refine TO.step 1 rfl (by kernel_rfl) zq4 zq19 ?_; (refine T.call Wanted.none rfl rfl (labels35_fn _) ?_; intro v26 H26 hle26 hv26; obtain ⟨ad26, cap26, rfl⟩ := hv26.len); refine yq62 ?_; refine TO.step 5 rfl (by kernel_rfl) zq4 zq19 ?_; (refine T.freezeB (b := b28) zq1 ?_; intro H8 l8 j1; refine T.call Wanted.none rfl rfl (ci H8 zq21 _ _ (SlR.mono hv26 zq21) (mt_blk hmv j1 (hlab.mono zq21))) ?_; rintro _ H30 h30 ⟨_, A1, rfl, hA1, qa1, qb1⟩; obtain ⟨aa1, ca1, rfl⟩ := hA1.1.len); refine yq62 ?_; refine TO.take 6 rfl (by kernel_rfl) (by kernel_rfl) (by kernel_rfl) (PV.move rfl) Wanted.none rfl rfl ?_; refine TO.take 7 rfl (by kernel_rfl) (by kernel_rfl) (by kernel_rfl) (PV.extract rfl rfl) Wanted.none rfl rfl ?_; refine TO.take 8 rfl (by kernel_rfl) (by kernel_rfl) (by kernel_rfl) (PV.extract rfl rfl) Wanted.none rfl rfl ?_; refine yq125 ?_; refine TO.done (by kernel_rfl) zq4 zq19 ?_; (exact K ⟨_, _, A1⟩ _ _ _ ⟨zq21, hA1, qa1, qb1⟩ zq8 (by repeat (first | exact Sel.refl _ | exact Sel.nil | (refine Sel.cons zq1 ?_) | (refine Sel.app zq1 ?_) | exact Sel.one zq1)) rfl)
  rintro ⟨H3, vA, A1⟩ ⟨h13, hA1, qa1, qb1⟩
  dsimp only at h13 hA1 qa1 qb1 ⊢
  obtain ⟨aa1, ca1, rfl⟩ := hA1.1.len
  (repeat refine sq ?_)
  refine T.cutHq (γ := RwQ) [(8, Value.slice aa1 A1.length ca1), (9, Value.int IntKind.i64 z), (7, Value.pointer (some { block := b7, off := 0 })), (5, Value.pointer (some { block := b5, off := 0 })), (1, Value.slice ag gs.length cg)] (fun g => H3.le g.H ∧ RwL g.H g.v g.A ∧ (z = 0 → g.A.map rwK = R) ∧ (z ≠ 0 → g.A = [])) (fun g => [(10, g.v), (11, .int .i64 z)]) (fun _ => [(b7, .cells #[c.va, c.vt, c.vx, c.vr, c.vn, c.vh, c.vs] 32 (0, 0)), (b5, .cells #[.int .i64 m.b, .int .i64 m.e, .slice al m.ls.length cl] 44 (0, 0))]) (fun g => g.H) ?_ fun K => ?_
  rotate_left
  · refine T.regionO [(b7, .cells #[c.va, c.vt, c.vx, c.vr, c.vn, c.vh, c.vs] 32 (0, 0)), (b5, .cells #[.int .i64 m.b, .int .i64 m.e, .slice al m.ls.length cl] 44 (0, 0))] (by kernel_rfl) ?_; refine yq123 ?_; refine TO.take 4 rfl (by kernel_rfl) (by kernel_rfl) (by kernel_rfl) (PV.move rfl) Wanted.none rfl rfl ?_; refine TO.both 1 3 rfl rfl (by kernel_rfl) zq4 zq19 ?_ ?_
    · (refine T.call Wanted.none rfl rfl (labels35_fn _) ?_; intro v35 H35 hle35 hv35; obtain ⟨ad35, cap35, rfl⟩ := hv35.len); refine yq62 ?_; refine TO.step 3 rfl (by kernel_rfl) zq4 zq19 ?_; (refine T.buildSlice Wanted.none rfl rfl zq11 (by exact rfl) (by exact rfl) ?_; intro b37); refine yq62 ?_; refine TO.step 5 rfl (by kernel_rfl) zq4 zq19 ?_; (refine T.freezeB (b := b37) zq1 ?_; intro H8 l8 j1; refine T.call Wanted.none rfl rfl (cr H8 zq21 _ _ (SlR.mono hv35 zq21) (mt_blk hmv j1 (hlab.mono zq21))) ?_; rintro _ H39 h39 ⟨_, A2, rfl, hA2, qa2, qb2⟩; obtain ⟨aa2, ca2, rfl⟩ := hA2.1.len); refine yq62 ?_; refine TO.take 6 rfl (by kernel_rfl) (by kernel_rfl) (by kernel_rfl) (PV.move rfl) Wanted.none rfl rfl ?_; refine TO.take 7 rfl (by kernel_rfl) (by kernel_rfl) (by kernel_rfl) (PV.extract rfl rfl) Wanted.none rfl rfl ?_; refine TO.take 8 rfl (by kernel_rfl) (by kernel_rfl) (by kernel_rfl) (PV.extract rfl rfl) Wanted.none rfl rfl ?_; refine yq125 ?_; refine TO.done (by kernel_rfl) zq4 zq19 ?_; (exact K ⟨_, _, A2⟩ _ _ _ ⟨zq21, hA2, qa2, qb2⟩ zq8 (by repeat (first | exact Sel.refl _ | exact Sel.nil | (refine Sel.cons zq1 ?_) | (refine Sel.app zq1 ?_) | exact Sel.one zq1)) rfl)
    · (refine T.buildSlice Wanted.none rfl rfl zq11 (by exact rfl) (by exact rfl) ?_; intro b37); refine yq62 ?_; refine TO.step 1 rfl (by kernel_rfl) zq4 zq19 ?_; (refine T.call Wanted.none rfl rfl (labels35_fn _) ?_; intro v35 H35 hle35 hv35; obtain ⟨ad35, cap35, rfl⟩ := hv35.len); refine yq62 ?_; refine TO.step 5 rfl (by kernel_rfl) zq4 zq19 ?_; (refine T.freezeB (b := b37) zq1 ?_; intro H8 l8 j1; refine T.call Wanted.none rfl rfl (cr H8 zq21 _ _ (SlR.mono hv35 zq21) (mt_blk hmv j1 (hlab.mono zq21))) ?_; rintro _ H39 h39 ⟨_, A2, rfl, hA2, qa2, qb2⟩; obtain ⟨aa2, ca2, rfl⟩ := hA2.1.len); refine yq62 ?_; refine TO.take 6 rfl (by kernel_rfl) (by kernel_rfl) (by kernel_rfl) (PV.move rfl) Wanted.none rfl rfl ?_; refine TO.take 7 rfl (by kernel_rfl) (by kernel_rfl) (by kernel_rfl) (PV.extract rfl rfl) Wanted.none rfl rfl ?_; refine TO.take 8 rfl (by kernel_rfl) (by kernel_rfl) (by kernel_rfl) (PV.extract rfl rfl) Wanted.none rfl rfl ?_; refine yq125 ?_; refine TO.done (by kernel_rfl) zq4 zq19 ?_; (exact K ⟨_, _, A2⟩ _ _ _ ⟨zq21, hA2, qa2, qb2⟩ zq8 (by repeat (first | exact Sel.refl _ | exact Sel.nil | (refine Sel.cons zq1 ?_) | (refine Sel.app zq1 ?_) | exact Sel.one zq1)) rfl)
  rintro ⟨H5, vB, A2⟩ ⟨h35, hA2, qa2, qb2⟩
  dsimp only at h35 hA2 qa2 qb2 ⊢
  obtain ⟨aa2, ca2, rfl⟩ := hA2.1.len
  have e12 : A1.map rwK = A2.map rwK := by
    by_cases h0 : z = 0
    · rw [qa1 h0, qa2 h0]
    · rw [qb1 h0, qb2 h0]
  have l1 : A1.length ≤ 1000000 := by
    by_cases h0 : z = 0
    · have := congrArg List.length (qa1 h0); rw [List.length_map] at this; simp at hRl; omega
    · rw [qb1 h0]; simp
  have d3 : decide (z = z) = true := by simp
  (repeat refine sq ?_)
  refine T.regionO [(b7, .cells #[c.va, c.vt, c.vx, c.vr, c.vn, c.vh, c.vs] 32 (0, 0)), (b5, .cells #[.int .i64 m.b, .int .i64 m.e, .slice al m.ls.length cl] 44 (0, 0))] (by kernel_rfl) ?_; refine TO.take 0 rfl (by kernel_rfl) (by kernel_rfl) (by kernel_rfl) (PV.move rfl) Wanted.none rfl rfl ?_; refine TO.take 1 rfl (by kernel_rfl) (by kernel_rfl) (by kernel_rfl) (PV.move rfl) Wanted.none rfl rfl ?_; refine TO.take 2 rfl (by kernel_rfl) (by kernel_rfl) (by kernel_rfl) (PV.eql rfl rfl) Wanted.none rfl rfl ?_; refine TO.take 3 rfl (by kernel_rfl) (by kernel_rfl) (by kernel_rfl) (PV.move rfl) Wanted.none rfl rfl ?_; refine yq164 ?_; refine TO.step 6 rfl (by kernel_rfl) zq4 zq19 ?_; (refine T.callX (Wanted.guard rfl rfl (by assumption)) rfl rfl (same_eq e12 l1 _ _ _ (hA1.mono zq21) (hA2.mono zq21)) ?_; rintro _ rfl); refine yq62 ?_; refine TO.take 7 rfl (by kernel_rfl) (by kernel_rfl) (by kernel_rfl) (PV.pickT rfl (by assumption) rfl) Wanted.none rfl rfl ?_; refine TO.take 8 rfl (by kernel_rfl) (by kernel_rfl) (by kernel_rfl) (PV.move rfl) Wanted.none rfl rfl ?_; refine TO.take 9 rfl (by kernel_rfl) (by kernel_rfl) (by kernel_rfl) (PV.loadAll rfl zq0 (by exact rfl)) (Wanted.guard rfl rfl rfl) rfl rfl ?_; refine TO.take 11 rfl (by kernel_rfl) (by kernel_rfl) (by kernel_rfl) (PV.loadAll rfl zq0 (by exact rfl)) (Wanted.guard rfl rfl rfl) rfl rfl ?_; refine TO.take 12 rfl (by kernel_rfl) (by kernel_rfl) (by kernel_rfl) (PV.move rfl) (Wanted.guard rfl rfl rfl) rfl rfl ?_; refine TO.take 14 rfl (by kernel_rfl) (by kernel_rfl) (by kernel_rfl) (PV.loadAll rfl zq0 (by exact rfl)) (Wanted.guard rfl rfl rfl) rfl rfl ?_; refine TO.take 16 rfl (by kernel_rfl) (by kernel_rfl) (by kernel_rfl) (PV.loadAll rfl zq0 (by exact rfl)) (Wanted.guard rfl rfl rfl) rfl rfl ?_; refine TO.take 17 rfl (by kernel_rfl) (by kernel_rfl) (by kernel_rfl) (PV.move rfl) (Wanted.guard rfl rfl rfl) rfl rfl ?_; refine TO.step 10 rfl (by kernel_rfl) zq4 zq19 ?_; (refine T.call (Wanted.guard rfl rfl rfl) rfl rfl (labels35_fn _) ?_; intro v52 H52 hle52 hv52; obtain ⟨ad52, cap52, rfl⟩ := hv52.len); refine yq62 ?_; refine TO.step 13 rfl (by kernel_rfl) zq4 zq19 ?_; (refine T.call (Wanted.guard rfl rfl rfl) rfl rfl (ki _ zq21 _ (SlR.mono hv52 zq21)) ?_; intro v55 H55 h55 hk55; obtain ⟨ak55, ck55, rfl⟩ := hk55.len); refine yq62 ?_; refine TO.step 15 rfl (by kernel_rfl) zq4 zq19 ?_; (refine T.call (Wanted.guard rfl rfl rfl) rfl rfl (labels35_fn _) ?_; intro v57 H57 hle57 hv57; obtain ⟨ad57, cap57, rfl⟩ := hv57.len); refine yq62 ?_; refine TO.step 18 rfl (by kernel_rfl) zq4 zq19 ?_; (refine T.call (Wanted.guard rfl rfl rfl) rfl rfl (kr _ zq21 _ (SlR.mono hv57 zq21)) ?_; intro v60 H60 h60 hk60; obtain ⟨ak60, ck60, rfl⟩ := hk60.len); refine yq62 ?_; refine TO.step 19 rfl (by kernel_rfl) zq4 zq19 ?_; (refine T.callX (Wanted.guard rfl rfl rfl) rfl rfl (hte _ _ _ (SlR.mono hk55 zq21) (SlR.mono hk60 zq21)) ?_; rintro _ rfl); refine yq62 ?_; refine TO.take 20 rfl (by kernel_rfl) (by kernel_rfl) (by kernel_rfl) (PV.pickT rfl rfl rfl) Wanted.none rfl rfl ?_
  refine TO.take 21 rfl (by kernel_rfl) (by kernel_rfl) (by kernel_rfl) (PV.move rfl) Wanted.none rfl rfl ?_; refine TO.step 22 rfl (by kernel_rfl) zq4 zq19 ?_; (refine T.callX (Wanted.guard rfl rfl rfl) rfl rfl (known35_fn _ (hT1.mono zq21)) ?_; rintro _ rfl); refine yq62 ?_; refine TO.take 23 rfl (by kernel_rfl) (by kernel_rfl) (by kernel_rfl) (PV.pickT rfl rfl rfl) Wanted.none rfl rfl ?_; refine TO.take 24 rfl (by kernel_rfl) (by kernel_rfl) (by kernel_rfl) (PV.assign rfl) Wanted.none rfl rfl ?_; refine TO.done (by kernel_rfl) zq4 zq19 ?_; (exact T.retF (Lv.fin (RV.tmp rfl rfl) rfl))
end Go.Proofs.YthacphfjchpoaaaGreatDoor
namespace Go.Proofs.YthacphfjchpoaaaGreatDoor
open Go.RowKit Go.ChangeShapes Go.WideShapes Go.ChangeAt Go.Deep

section
variable {H : Type} {enc : TypeId × Value → H} {P : Program} {w : World} {base : Nat} {spare : Nat → Bool} {held : Bool}
theorem row_slrX {sz len cap : Nat} {ad : Addr} {xs : List Value} (hsz : 0 < sz) (hpos : 0 < len) (hcap : len ≤ cap) (hxs : xs.length = len * sz) (hc : ∀ j, j < len * sz → w.cell? (ad.add j) = xs[j]?) : SlR (fun b => w.heap[b]?) sz (.slice (some ad) len cap) len xs := by
  refine ⟨hxs, .inr ?_⟩
  have hlp : 0 < len * sz := Nat.mul_pos hpos hsz
  obtain ⟨b, off, sp⟩ := ad
  have h0 : xs[0]? = some (xs[0]'(by omega)) := List.getElem?_eq_getElem (by omega)
  have hc0 : w.cell? ⟨b, off, sp⟩ = some (xs[0]'(by omega)) := by
    have := hc 0 (by omega)
    rw [h0] at this
    simpa [Addr.add] using this
  obtain ⟨rfl, cs, tt, fz, hb, _⟩ := cells_at hc0
  refine ⟨b, off, cap, cs, tt, fz, rfl, hb, ?_, hcap⟩
  have hcell : ∀ o u, w.cell? ⟨b, o, none⟩ = some u → cs[o]? = some u := by
    intro o u hu
    obtain ⟨_, cs', t', fz', hb', hc'⟩ := cells_at hu
    rw [hb] at hb'
    injection hb' with hb'
    injection hb' with e1
    have : cs = cs' := by simpa using congrArg Array.toList e1
    rw [this]; exact hc'
  apply List.ext_getElem?
  intro j
  by_cases hj : j < len * sz
  · rw [List.getElem?_take, if_pos hj, List.getElem?_drop]
    have k0 := hc j hj
    rw [show ((⟨b, off, none⟩ : Addr).add j) = ⟨b, off + j, none⟩ from add_plain _ _ _, List.getElem?_eq_getElem (by omega)] at k0
    rw [hcell _ _ k0, List.getElem?_eq_getElem (by omega)]
  · rw [List.getElem?_take, if_neg hj, List.getElem?_eq_none (by omega)]
theorem ints_of_trodX {t e : TypeId} {fuel : Nat} {v : Value} {x : DataW H × List MemPlace} (ht : P.underlying t = some (.slice e)) (he : P.underlying e = some (.int .i64)) (ce : P.cellsOf e = 1)
    (h : DataW.trod enc P w base spare held fuel t [v] = some x) : ∃ l : List Int, SlR (fun b => w.heap[b]?) 1 v l.length (l.flatMap fun a => [.int .i64 a]) := by
  rcases open_ints ht he ce h with ⟨hcs, _⟩ | ⟨ad, len, cap, zs, hcs, _, hl, hm, hmm, rfl, hi, hz⟩
  · simp only [List.cons.injEq, and_true] at hcs
    subst hcs
    exact ⟨[], SlR.empty⟩
  · simp only [List.cons.injEq, and_true] at hcs
    subst hcs
    have hlm : len ≤ zs.length := by rw [hmm]; split <;> omega
    have htl : (zs.take len).length = len := by rw [List.length_take]; omega
    refine ⟨zs.take len, ?_⟩
    rw [htl]
    rcases Nat.eq_zero_or_pos len with h00 | hpos
    · subst h00; exact ⟨by simp, .inl ⟨⟨_, _, rfl⟩, rfl⟩⟩
    · refine row_slrX (by omega) hpos hl (by rw [flat_len (f := fun a : Int => [Value.int .i64 a]) (sz := 1) (fun _ => rfl), htl]) fun j hj => ?_
      rw [hi j (by omega)]
      have hx : (zs.take len)[j]? = some (zs.getD j 0) := by
        rw [List.getElem?_take, if_pos (by omega), List.getD_eq_getElem?_getD, List.getElem?_eq_getElem (by omega)]; rfl
      have hel := flat_elem (f := fun a : Int => [Value.int .i64 a]) (sz := 1) (fun _ => rfl) (zs.take len) j _ hx
      have := congrArg (fun l => l[0]?) hel
      simp only [Nat.mul_one, List.getElem?_take, List.getElem?_drop, Nat.add_zero] at this
      simpa using this.symm
/-- the fields of an aggregate of one-cell fields -/
theorem agg_fields {r : Reach} {b0 : Nat} {t : TypeId} {fs : Array Field} {n : Nat} {v : Value} {d : DataW H} {p : List MemPlace} (hs : P.underlying t = some (.struct fs)) (hone : oneCellFields P fs = true) (hn : fs.size = n) (hC : P.cellsOf t = n)
    (hv : Value.okWide P w r b0 t v) (h : DataW.Trod enc P w base spare held t v d p) :
    ∃ (cs : List Value) (k : Nat), v = .agg cs.toArray ∧ cs.length = n ∧ ∀ (j : Nat) (f : Field), fs[j]? = some f → j < n → ∃ u y, cs[j]? = some u ∧ DataW.trod enc P w base spare held k f.type [u] = some y := by
  obtain ⟨cs, rfl, hsz⟩ := okWide_struct hs hv
  obtain ⟨fuel, hf⟩ := h
  obtain ⟨ys, k, _, hy, _, hyl, hfs⟩ := DataW.trod_struct hs hf
  have hl : cs.toList.length = n := by rw [Array.length_toList, hsz, hC]
  refine ⟨cs.toList, k, rfl, hl, fun j f hj hjn => ?_⟩
  obtain ⟨ho, hk⟩ := hone_of hone j f hj
  have h1 := hfs j f hj
  have hcv : (Value.agg cs).cells.toList = cs.toList := rfl
  have hyl' : j < ys.length := by rw [hyl, hn]; exact hjn
  rw [ho, hk, hcv, List.drop_eq_getElem_cons (by omega)] at h1
  exact ⟨cs.toList[j]'(by omega), ys[j]'hyl', List.getElem?_eq_getElem (by omega), by rw [← List.getElem?_eq_getElem, ← h1]; rfl⟩
theorem open_match {r : Reach} {b0 : Nat} {t ti : TypeId} {fb fe fl : Field} {v : Value} {d : DataW H} {p : List MemPlace} (hs : P.underlying t = some (.struct #[fb, fe, fl]))
    (hone : oneCellFields P #[fb, fe, fl] = true) (hC : P.cellsOf t = 3) (hb : P.underlying fb.type = some (.int .i64)) (he : P.underlying fe.type = some (.int .i64)) (hl : P.underlying fl.type = some (.slice ti)) (hi : P.underlying ti = some (.int .i64)) (hci : P.cellsOf ti = 1)
    (hv : Value.okWide P w r b0 t v) (h : DataW.Trod enc P w base spare held t v d p) : ∃ m : Mt, v = mtV m ∧ InL (fun b => w.heap[b]?) m.v m.ls := by
  obtain ⟨cs, k, rfl, hn, hf⟩ := agg_fields (n := 3) hs hone rfl hC hv h
  obtain ⟨u0, y0, c0, t0⟩ := hf 0 fb rfl (by omega)
  obtain ⟨u1, y1, c1, t1⟩ := hf 1 fe rfl (by omega)
  obtain ⟨u2, y2, c2, t2⟩ := hf 2 fl rfl (by omega)
  obtain ⟨x0, hx0, _, _⟩ := DataW.trod_int hb t0
  obtain ⟨x1, hx1, _, _⟩ := DataW.trod_int he t1
  obtain rfl : u0 = _ := by simpa using hx0
  obtain rfl : u1 = _ := by simpa using hx1
  obtain ⟨ls, hls⟩ := ints_of_trodX hl hi hci t2
  refine ⟨⟨x0, x1, u2, ls⟩, ?_, hls⟩
  match cs, hn, c0, c1, c2 with
  | [a, b, c], _, c0, c1, c2 =>
    simp at c0 c1 c2
    subst c0 c1 c2
    rfl
end
end Go.Proofs.YthacphfjchpoaaaGreatDoor
namespace Go.Proofs.YthacphfjchpoaaaGreatDoor
open Go.RowKit Go.ChangeShapes Go.WideShapes Go.ChangeAt Go.Deep

section
variable {H : Type} {enc : TypeId × Value → H} {P : Program} {w : World} {base : Nat} {spare : Nat → Bool} {held : Bool}
theorem open_groups {r : Reach} {b0 : Nat} {t e : TypeId} {f0 f1 f2 f3 f4 f5 : Field} {v : Value} {d : DataW H} {p : List MemPlace} (ht : P.underlying t = some (.slice e)) (he : P.underlying e = some (.struct #[f0, f1, f2, f3, f4, f5]))
    (hone : oneCellFields P #[f0, f1, f2, f3, f4, f5] = true) (hC : P.cellsOf e = 6) (k0 : P.underlying f0.type = some (.int .i64)) (k1 : P.underlying f1.type = some (.int .i64)) (k2 : P.underlying f2.type = some (.int .i64))
    (k3 : P.underlying f3.type = some .string) (k4 : P.underlying f4.type = some .string) (k5 : P.underlying f5.type = some .string)
    (hv : Value.okWide P w r b0 t v) (h : DataW.Trod enc P w base spare held t v d p) :
    ∃ x : List Gp, GpL (fun b => w.heap[b]?) v x := by
  obtain ⟨a, len, cap, rfl⟩ := okWide_slice ht hv
  obtain ⟨fuel, hf⟩ := h
  rcases open_slice ht hf with ⟨hcs, _⟩ | ⟨ad, len', cap', m, n, D, Pl, hcs, _, hlc, hm, hmm, hx, hI⟩
  · simp only [Value.cells, List.cons.injEq, and_true] at hcs
    injection hcs with e1 e2 e3
    subst e1 e2 e3
    exact ⟨[], SlR.empty⟩
  · simp only [Value.cells, List.cons.injEq, and_true] at hcs
    injection hcs with e1 e2 e3
    subst e1 e2 e3
    have hlm : len ≤ m := by rw [hmm]; split <;> omega
    have hE : ∀ i, i < len → ∃ x : Gp, ∀ j, j < 6 → w.cell? (ad.add (i * 6 + j)) = (encGp x)[j]? := by
      intro i hin
      obtain ⟨cs', hc, ht'⟩ := hI i (by omega)
      rw [hC] at hc
      obtain ⟨ys, n', _, hy, _, hyl, hfs⟩ := DataW.trod_struct he ht'
      obtain ⟨_, hcl, hat⟩ := World.cells?_some hc
      injection hy with hy1 hy2
      have hyl6 : ys.length = 6 := hyl
      have field : ∀ (j : Nat) (f : Field), (#[f0, f1, f2, f3, f4, f5] : Array Field)[j]? = some f → j < 6 → ∃ u y, cs'[j]? = some u ∧ ys[j]? = some y ∧ DataW.trod enc P w base spare held n' f.type [u] = some y := by
        intro j f hj hj3
        obtain ⟨ho, hk⟩ := hone_of hone j f hj
        have h1 := hfs j f hj
        rw [ho, hk, List.drop_eq_getElem_cons (by omega)] at h1
        exact ⟨cs'[j]'(by omega), ys[j]'(by omega), List.getElem?_eq_getElem (by omega), List.getElem?_eq_getElem (by omega), by rw [← List.getElem?_eq_getElem, ← h1]; rfl⟩
      obtain ⟨u0, y0, c0, q0, t0⟩ := field 0 f0 rfl (by omega)
      obtain ⟨u1, y1, c1, q1, t1⟩ := field 1 f1 rfl (by omega)
      obtain ⟨u2, y2, c2, q2, t2⟩ := field 2 f2 rfl (by omega)
      obtain ⟨u3, y3, c3, q3, t3⟩ := field 3 f3 rfl (by omega)
      obtain ⟨u4, y4, c4, q4, t4⟩ := field 4 f4 rfl (by omega)
      obtain ⟨u5, y5, c5, q5, t5⟩ := field 5 f5 rfl (by omega)
      obtain ⟨x0, hx0, _, _⟩ := DataW.trod_int k0 t0
      obtain ⟨x1, hx1, _, _⟩ := DataW.trod_int k1 t1
      obtain ⟨x2, hx2, _, _⟩ := DataW.trod_int k2 t2
      obtain ⟨x3, hx3, _, _⟩ := DataW.trod_string k3 t3
      obtain ⟨x4, hx4, _, _⟩ := DataW.trod_string k4 t4
      obtain ⟨x5, hx5, _, _⟩ := DataW.trod_string k5 t5
      obtain rfl : u0 = _ := by simpa using hx0
      obtain rfl : u1 = _ := by simpa using hx1
      obtain rfl : u2 = _ := by simpa using hx2
      obtain rfl : u3 = _ := by simpa using hx3
      obtain rfl : u4 = _ := by simpa using hx4
      obtain rfl : u5 = _ := by simpa using hx5
      refine ⟨⟨x0, x1, x2, x3, x4, x5⟩, fun j hj => ?_⟩
      have hadd : ad.add (i * 6 + j) = (ad.add (i * 6)).add j := by rw [Addr.add_add]
      rw [hadd, hat j hj]
      rcases (by omega : j = 0 ∨ j = 1 ∨ j = 2 ∨ j = 3 ∨ j = 4 ∨ j = 5) with rfl | rfl | rfl | rfl | rfl | rfl
      · exact c0
      · exact c1
      · exact c2
      · exact c3
      · exact c4
      · exact c5
    let F : Nat → Gp := fun i => if hh : i < len then (hE i hh).choose else ⟨0, 0, 0, ByteArray.empty, ByteArray.empty, ByteArray.empty⟩
    have hF : ∀ i, i < len → ∀ j, j < 6 → w.cell? (ad.add (i * 6 + j)) = (encGp (F i))[j]? := by
      intro i hh
      have := (hE i hh).choose_spec
      simp only [F, dif_pos hh]; exact this
    refine ⟨(List.range len).map F, ?_⟩
    unfold GpL
    rw [List.length_map, List.length_range]
    rcases Nat.eq_zero_or_pos len with h00 | hpos
    · subst h00; exact ⟨by simp, .inl ⟨⟨_, _, rfl⟩, rfl⟩⟩
    · refine row_slrX (by omega) hpos hlc (by rw [flat_len (f := encGp) (sz := 6) (fun _ => rfl), List.length_map, List.length_range]) fun j hj => ?_
      have hq := Nat.div_add_mod j 6
      have hmod := Nat.mod_lt j (show 0 < 6 by omega)
      have hq' : j / 6 < len := by omega
      have hel := flat_elem (f := encGp) (sz := 6) (fun _ => rfl) ((List.range len).map F) (j / 6) (F (j / 6)) (by rw [List.getElem?_map, List.getElem?_range hq']; rfl)
      have e2 : (((List.range len).map F).flatMap encGp)[j]? = (encGp (F (j / 6)))[j % 6]? := by
        rw [← hel, List.getElem?_take, if_pos hmod, List.getElem?_drop]; congr 1; omega
      rw [e2, ← hF _ hq' _ hmod]
      congr 2; omega
end
end Go.Proofs.YthacphfjchpoaaaGreatDoor
