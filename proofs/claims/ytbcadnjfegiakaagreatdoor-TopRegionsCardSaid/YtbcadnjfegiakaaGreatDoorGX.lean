/- any corpus: the spans of the regions of a type; sorting spans.
   strategy: the spans of matches; all matches are chosen by the strategy that chooses each. -/
import Derived.Test.YtbcadnjfegiakaaGreatDoorGW
namespace Go.Proofs.YtbcadnjfegiakaaGreatDoor
open Go.RowKit

theorem ordC_lt (a b : Sp) : Go.Proofs.ltOf ordC a b = decide (ltC a b) := by
  unfold Go.Proofs.ltOf
  rw [decide_eq_decide]
  unfold ordC orI orI orI cmpI ltC
  repeat' split
  all_goals omega
theorem ordC_swo : Go.Sort.SWO (Go.Proofs.ltOf ordC) where
  irrefl x := by rw [ordC_lt]; simp [ltC]
  trans x y z h1 h2 := by
    rw [ordC_lt, decide_eq_true_eq] at *
    unfold ltC at *; omega
  ntrans x y z h1 h2 := by
    rw [ordC_lt, decide_eq_false_iff_not] at *
    unfold ltC at *; omega
theorem ordC_tot (x y : Sp) (h1 : Go.Proofs.ltOf ordC x y = false) (h2 : Go.Proofs.ltOf ordC y x = false) : x = y := by
  rw [ordC_lt, decide_eq_false_iff_not] at *
  unfold ltC at *
  exact Prod.ext (by omega) (by omega)
def sortC (l : List Sp) : List Sp := l.mergeSort fun x y => !(Go.Proofs.ltOf ordC) y x
theorem sortG_fn (gfn : FuncId) [hE : Ent Tryz.prog gfn] (l : List Sp) (v : Value) (lv : List (Nat × Obj)) (H : Hp) (hcm : ∀ x y : Sp, Fn Tryz.prog gfn #[spV x, spV y] H (fun v _ => v = .int .i64 (ordC x y))) (hv : SpV v lv l) (hl : l.length ≤ 1000000) : FnW Tryz.prog 20 #[v, .func (.func gfn) #[] #[]] H lv (fun u H' l' => u = .tuple #[] ∧ H' = H ∧ SpV v l' (sortC l)) := by
  have hsl : (sortC l).length = l.length := by unfold sortC; exact List.length_mergeSort _
  rcases hv.2 with ⟨⟨ad, rfl⟩, rfl, h0⟩ | ⟨b, cap, cs, rfl, rfl, h1, h2, h3, h4⟩
  · have hl0 : l = [] := List.eq_nil_of_length_eq_zero h0
    subst hl0
    refine FnW.mk fun w hw => callsIn_wide.2 ((Go.Proofs.AnyF.slices_SortFunc_none (ρ := Tryz.sortSpL_ren) { Tryz.sortSpL with } ad 0 (.func (.func gfn) #[] #[]) w).mono ?_)
    rintro e w' ⟨rfl, rfl⟩
    have h00 : sortC [] = [] := List.eq_nil_of_length_eq_zero hsl
    exact ⟨_, H, [], rfl, hw, rfl, rfl, by rw [h00]; exact Vec.empty _ _ _⟩
  · obtain ⟨tl, rfl⟩ : ∃ tl, cs = l.flatMap encS ++ tl := ⟨cs.drop (l.length * 2), by rw [← h4, List.take_append_drop]⟩
    have hcmp : ∀ x y : Sp, Fn Tryz.prog gfn ([Value.agg (encS x).toArray, .agg (encS y).toArray] ++ []).toArray H (fun v _ => v = .int .i64 (ordC x y)) := fun x y => hcm x y
    refine (sort_FnW (ρ := Tryz.sortSpL_ren) Tryz.sortSpL (enc := encS) (k := 2) (by intro w; exact Tryz.isAgg57 w) (by intro w; exact Tryz.sizeOf57 w) encS_len one_encS ordC ordC_swo ordC_tot gfn [] l tl hcmp (by omega)).mono ?_
    rintro v H' l' ⟨rfl, rfl, rfl⟩
    refine ⟨rfl, rfl, by rw [hsl, flatS_len, hsl], .inr ⟨b, cap, (sortC l).flatMap encS ++ tl, by rw [hsl], rfl, by rw [hsl]; exact h1, h2, ?_, ?_⟩⟩
    · rw [← h3, List.length_append, List.length_append, flatS_len, flatS_len, hsl]
    · rw [hsl, ← hsl, ← flatS_len, List.take_left]
/-- the spans of a list, ascending and each once -/
def spansL (l : List Sp) : List Sp := dedupAdj (sortC l)
theorem sortC_pw (l : List Sp) : (sortC l).Pairwise (fun a b => ¬ ltC b a) := by
  have h := List.pairwise_mergeSort (le := fun x y => !(Go.Proofs.ltOf ordC) y x) (fun a b c h1 h2 => by
    simp only [ordC_lt, Bool.not_eq_true', decide_eq_false_iff_not] at *
    unfold ltC at *; omega) (fun a b => by
    simp only [ordC_lt, Bool.or_eq_true, Bool.not_eq_true', decide_eq_false_iff_not]
    unfold ltC; omega) l
  refine h.imp ?_
  intro a b hab
  simpa only [ordC_lt, Bool.not_eq_true', decide_eq_false_iff_not] using hab
theorem spansL_sorted (l : List Sp) : (spansL l).Pairwise ltC := dedupAdj_sorted ltC_sto _ (sortC_pw l)
theorem spansL_mem (l : List Sp) (x : Sp) : x ∈ spansL l ↔ x ∈ l := by
  unfold spansL; rw [dedupAdj_mem]; unfold sortC; exact (List.mergeSort_perm l _).mem_iff
theorem spansL_len (l : List Sp) : (spansL l).length ≤ l.length := by
  have := dedupAdj_len (sortC l)
  have h2 : (sortC l).length = l.length := List.length_mergeSort _
  unfold spansL
  omega
theorem T.owned {P : Program} {X : Cx} {e : Env} {l l' : List (Nat × Obj)} {H : Hp} {D : List Deferred} {k : List It} (hl : l = l') (h : T P X e l' H D k) : T P X e l H D k := hl ▸ h
def spOf (p : Rg × Nat) : Sp := (p.1.b, p.1.e)
set_option maxHeartbeats 2000000 in
theorem spans_in (c : Cp) (kind : ByteArray) (H : Hp) (hc : CpA H c) (hlr : c.rg.length ≤ 1000) : Fn Tryz.prog 9 #[cpV c, .string kind] H (fun u H' => SpL H' u (spansL ((ofL c.rg kind).map spOf))) := by
  have hof := of_fn c kind H
  have hrl := hc.r
  have hol : ((ofL c.rg kind).map spOf).length ≤ 1000 := by
    rw [List.length_map]
    unfold ofL
    have := List.length_filter_le (fun p : Rg × Nat => decide (p.1.ty = kind)) c.rg.zipIdx
    rw [List.length_zipIdx] at this
    omega
  unfold cpV cpC at hof
  unfold cpV
  refine Fn.of_T (vs := [.agg #[c.va, c.vt, c.vx, c.vr, c.vn, c.vh, c.vs], .string kind]) Tryz.func9 rfl rfl fun w => ?_; refine zs3 ?_; (refine T.box Wanted.none rfl rfl zq15 ?_; intro b2); refine yq14 ?_; refine sy fun b5 => ?_; refine so ?_; refine sq ?_; refine zs3 ?_; refine sv (PV.loadAll rfl zq0 (by exact rfl)) ?_; refine sm ?_; refine T.call Wanted.none rfl rfl hof ?_
  rintro _ H2 hle2 ⟨bc, bk, rfl, hbc, hbk⟩
  refine so ?_; refine T.block ?_
  refine T.rangeFunc rfl rfl (of_iter c kind bc bk H2 (hc.mono hle2) (by unfold cpC; exact hbc) hbk) (fun _ => rfl) rfl (by decide)
    (fun n lk _ => ∃ v lv, RowV 57 encS 2 v lv (((ofL c.rg kind).take n).map spOf) ∧ lk = lv ++ [(b5, .cells #[v] 51 (0, 0)), (b2, .cells #[c.va, c.vt, c.vx, c.vr, c.vn, c.vh, c.vs] 30 (0, 0))])
    (fun cd lk _ => False)
    ⟨_, [], Vec.nil _ _, rfl⟩ ?_ ?_ ?_
  · rintro n ⟨r, idx⟩ lk Hk hx ⟨v, lv, hz, rfl⟩ hle L rec lo hrec
    have hrm := ofL_mem (List.mem_of_getElem? hx)
    have hrok := (hrl.2 r hrm).mono (hle2.trans hle)
    obtain ⟨ak, ck, hk⟩ := hrok.1.len
    obtain ⟨adv, capv, rfl⟩ := hz.val
    have hst : ((ofL c.rg kind).take (n + 1)).map spOf = ((ofL c.rg kind).take n).map spOf ++ [(r.b, r.e)] := by
      rw [List.take_add_one, hx, List.map_append]; rfl
    have hLl : (((ofL c.rg kind).take n).map spOf).length ≤ 1000 := by
      rw [List.length_map] at hol ⊢
      rw [List.length_take]; omega
    unfold encOf
    unfold rgV
    dsimp only
    rw [hk]
    refine sr ?_; refine sy fun b7 => ?_; refine yq9 ?_; refine T.begin (lk := _ :: (lv ++ [_, _])) hrec ?_; refine T.owned (by rw [List.cons_append, List.append_assoc, List.cons_append, List.cons_append, List.nil_append]) ?_; refine T.block ?_; refine sr ?_; refine sl ?_; refine yq6 ?_; refine yq6 ?_; refine sv (PV.build rfl zq12) ?_; (refine T.buildSlice Wanted.none rfl rfl zq11 (by exact rfl) (by exact rfl) ?_; intro b19); (refine T.appendP (lv := lv) Wanted.none rfl rfl rfl hz (Src.cells (m := 1) (ys := encS (r.b, r.e)) (.own zq2) rfl rfl) (one_encS _) (by omega) zq1 ?_; intro v20 lv20 hv20 _; obtain ⟨ad20, cap20, rfl⟩ := hv20.val); refine T.store1 Wanted.none rfl rfl rfl zq14 zq13 ?_; refine so ?_; refine T.blkEnd ?_
    refine T.roundEnd (lv20 ++ [_, _]) (by rw [List.append_assoc]; exact List.Sublist.append_left (.cons _ (.cons _ (List.Sublist.refl _))) lv20) (Hp.le.refl _) ⟨_, lv20, ?_, rfl⟩
    rw [hst]
    exact RowV.snoc hv20
  · rintro r lk Hk hle ⟨v, lv, hz, rfl⟩
    rw [List.take_length] at hz
    refine T.blkEnd ?_; refine zs3 ?_; refine sl ?_; (refine T.callW Wanted.none rfl rfl (sortG_fn 24 _ _ lv Hk (fun x y => compare_fn x y Hk) hz (by omega)) zq1 ?_; rintro _ H3 lv2 _ ⟨rfl, rfl, hv2⟩); refine zs1 ?_; refine sl ?_; (refine T.callW Wanted.none rfl rfl (compact_fn _ _ lv2 H3 hv2 (by unfold sortC; rw [List.length_mergeSort]; omega)) zq1 ?_; rintro u H4 lv3 _ ⟨rfl, hv3⟩); refine yq0 ?_; refine T.freezeP (lv := lv3) hv3 zq1 ?_
    intro H5 hle5 hs5
    exact T.retF (Lv.mark Upd.head (Lv.fin zq6 hs5))
  · rintro cd r lk Hk hle h
    exact h.elim
end Go.Proofs.YtbcadnjfegiakaaGreatDoor
namespace Go.Proofs.YtbcadnjfegiakaaGreatDoor
open Go.RowKit


/-! ### BinarySearchFunc -/
theorem ltC_ord (a b : Sp) : ordC a b < 0 ↔ ltC a b := by
  unfold ordC orI orI orI cmpI ltC
  repeat' split
  all_goals omega
theorem eqC_ord (a b : Sp) : ordC a b = 0 ↔ a = b := by
  constructor
  · intro h
    unfold ordC orI orI orI cmpI at h
    refine Prod.ext ?_ ?_
    all_goals (repeat' split at h) <;> omega
  · rintro rfl
    unfold ordC orI orI orI cmpI
    simp
/-- where a binary search ends: all ahead are smaller, none from there on is -/
theorem bs_found {l : List Sp} (hs : l.Pairwise ltC) {t : Sp} {i : Nat} (hi : i ≤ l.length) (ha : ∀ x ∈ l.take i, ltC x t) (hb : ∀ x ∈ l.drop i, ¬ ltC x t) : t ∈ l ↔ l[i]? = some t := by
  constructor
  · intro h
    rw [← List.take_append_drop i l, List.mem_append] at h
    rcases h with h | h
    · exact absurd (ha t h) (ltC_sto.irr t)
    · cases hd : l.drop i with
      | nil => rw [hd] at h; cases h
      | cons y r =>
        have hy : l[i]? = some y := by rw [← List.head?_drop, hd]; rfl
        rw [hd] at h
        rcases List.mem_cons.1 h with rfl | h
        · exact hy
        · have hp : (l.drop i).Pairwise ltC := hs.sublist (List.drop_sublist i l)
          rw [hd, List.pairwise_cons] at hp
          exact absurd (hp.1 t h) (hb y (by rw [hd]; exact List.mem_cons_self))
  · exact List.mem_of_getElem?
section
variable {P : Program} {e : Env} {l : List (Nat × Obj)} {H : Hp} {dst : Option Tmp} {ty : TypeId} {pos : String} {after : Array Edge} {gd : Option (Nat × Bool)}
theorem PV.convS {s t : TypeId} {ks : IntKind} (kt : IntKind) [hs : IntT P s ks] [ht : IntT P t kt] {x : Operand} {k : IntKind} {m : Int} (hx : evE e x = some (.int k m)) (hm : kt.wrap m = m) :
    PV P e l H ⟨dst, .convert s t x, ty, pos, after, gd⟩ (.int kt m) := by
  have h := PV.convK (P := P) (e := e) (l := l) (H := H) (dst := dst) (ty := ty) (pos := pos) (after := after) (gd := gd) (ks := ks) (kt := kt) hx (s := s) (t := t)
  rw [hm] at h; exact h
theorem PV.shr1 {x y : Operand} {t t' : TypeId} {m : Int} (hx : evE e x = some (.int .u64 m)) (hy : evE e y = some (.int .u64 1)) : PV P e l H ⟨dst, .binOp .shr t x y t', ty, pos, after, gd⟩ (.int .u64 (m / 2)) := PV.mk fun X D a w ha hw => by
  simp [execOp, ha.eval hx, ha.eval hy, binOp, eqGuard, shift_shr_any, IntKind.bits]
end
section
variable {P : Program} {X : Cx} {e : Env} {l : List (Nat × Obj)} {H : Hp} {D : List Deferred} {k : List It} {all : Array Oper}
theorem TQ.callF {rest : List Oper} {ty : TypeId} {pos : String} {after : Array Edge} {gd : Option (Nat × Bool)} {d : Nat} {f : FuncId} [hE : Ent P f] {x : Operand} {xs : List Operand} {ts : Array TypeId} {vs cap : List Value} {v : Value} (hw : Wanted e all ⟨some d, .call ⟨.value x, xs.toArray, ts⟩, ty, pos, after, gd⟩) (hN : Nat.blt d X.N = true)
    (hx : evE e x = some (.func (.func f) #[] cap.toArray)) (hv : evL e xs = some vs) (hf : Fn P f (vs ++ cap).toArray H (fun u _ => u = v))
    (h : TQ P X ((d, v) :: e) l H D all rest k) :
    TQ P X e l H D all (⟨some d, .call ⟨.value x, xs.toArray, ts⟩, ty, pos, after, gd⟩ :: rest) k := by
  unfold TQ at h ⊢
  intro a ha
  show if _ then _ else _
  rw [if_pos (hw.get X D a ha)]
  refine ⟨v, fun w hw' => ?_, h _ (ha.put (by simpa using hN) v)⟩
  have hrun : (execOp a.eval ⟨some d, .call ⟨.value x, xs.toArray, ts⟩, ty, pos, after, gd⟩).run P w = .ok (.enter f (vs ++ cap).toArray) w := by
    have := evL_map ha xs vs hv
    have hE' := hE.h (vs ++ cap).toArray w
    simp [execOp, resolve, ha.eval hx, Deferred.ofValue, invoke, List.map_toArray, this]
    simpa using hE'
  unfold Oper.quietAt
  rw [hrun]
  refine ⟨rfl, (callsIn_wide.1 (hf.get w hw'.fro)).mono ?_⟩
  rintro en w' ⟨u, H', rfl, h2, h3, h4, rfl⟩
  exact ⟨rfl, hw'.callV h4⟩
end
theorem wrapU {m : Int} (h : 0 ≤ m ∧ m ≤ 9223372036854775807) : IntKind.u64.wrap m = m := by simp [IntKind.wrap, IntKind.bits, IntKind.signed]; omega
structure BG where
  i : Nat
  j : Nat
set_option maxHeartbeats 2000000 in
theorem search_fn (l : List Sp) (t : Sp) (v : Value) (H : Hp) (hv : SpL H v l) (hl : l.length ≤ 1000000) (hs : l.Pairwise ltC) : Fn Tryz.prog 94 #[v, spV t, .func (.func 21) #[] #[]] H (fun u _ => ∃ i : Int, u = .tuple #[.int .i64 i, .bool (decide (t ∈ l))]) := by
  obtain ⟨ad, cap, rfl⟩ := hv.len
  refine Fn.of_T (vs := [.slice ad l.length cap, spV t, .func (.func 21) #[] #[]]) Tryz.func94 rfl rfl fun w => ?_
  unfold spV
  refine zs3 ?_; (refine T.box Wanted.none rfl rfl zq15 ?_; intro b4); refine sa ?_; refine yq28 ?_; refine sv (PV.lenSl rfl) ?_; refine yq28 ?_; refine sa ?_; refine yq11 ?_; refine T.block ?_
  refine T.loop (γ := BG) (fun g => g.i ≤ g.j ∧ g.j ≤ l.length ∧ (∀ x ∈ l.take g.i, ltC x t) ∧ ∀ x ∈ l.drop g.j, ¬ ltC x t)
    (fun g => [(10, .int .i64 (g.j : Int)), (9, .int .i64 (g.i : Int)), (8, .int .i64 (l.length : Int)), (4, .pointer (some ⟨b4, 0, none⟩)), (0, .slice ad l.length cap), (2, .func (.func 21) #[] #[])])
    (fun g => [(b4, .cells #[.int .i64 t.1, .int .i64 t.2] 57 (0, 0))]) (fun _ => H) (fun g => g.j - g.i) ⟨0, l.length⟩ ⟨by simp, by simp, by simp, by simp⟩ zq8 zq4 rfl ?_
  rintro ⟨i, j⟩ ⟨i1, i2, i3, i4⟩
  dsimp only at i1 i2 i3 i4 ⊢
  by_cases hij : i < j
  · obtain ⟨h, hh⟩ : ∃ h, h = (i + j) / 2 := ⟨_, rfl⟩
    have hz : ((i : Int) + j) / 2 = (h : Int) := by omega
    have hi1 : i ≤ h := by omega
    have hi2 : h < j := by omega
    obtain ⟨s, hx⟩ : ∃ x, l[h]? = some x := ⟨_, List.getElem?_eq_getElem (by omega)⟩
    obtain ⟨b, off, rfl, hsub⟩ := hv.span hx
    have hcall := compareS_fn s t H
    unfold spV at hcall
    refine sq ?_; refine yq4 ?_; refine sm ?_; refine yq2 ?_; refine sC rfl (by omega) ?_; refine T.skip ?_; refine T.block ?_; refine yq4 ?_; refine sm ?_; refine sv (PV.add rfl rfl (by omega)) ?_; refine T.pv (PV.convS .u64 (m := (i : Int) + j) rfl (wrapU (by omega))) Wanted.none rfl rfl ?_
    skip
    refine sv (PV.shr1 rfl rfl) ?_
    rw [hz]
    refine sv (PV.conv64 rfl (by omega)) ?_; refine yq11 ?_; refine yq10 ?_; refine TQ.pv (PV.move rfl) Wanted.none rfl rfl ?_; refine yq18 ?_; refine TQ.pv (PV.loadSubAll rfl (by assumption) (by exact rfl)) Wanted.none rfl rfl ?_; refine TQ.pv (PV.loadAll rfl zq0 (by exact rfl)) Wanted.none rfl rfl ?_; refine TQ.callF (vs := [_, _]) (cap := []) Wanted.none rfl rfl rfl hcall ?_; refine TQ.pv (PV.lss rfl rfl) Wanted.none rfl rfl ?_; refine TQ.nil ?_
    refine T.condD rfl (fun hc => ?_) (fun hc => ?_)
    · rw [ltC_ord] at hc
      refine sr ?_; refine sm ?_; refine sv (PV.add rfl rfl (by omega)) ?_; refine yq0 ?_; refine T.blkEnd ?_
      refine T.next ⟨h + 1, j⟩ ⟨by dsimp only; omega, i2, fun x hx' => ?_, i4⟩ (by dsimp only; omega) zq8 zq4 rfl
      dsimp only at hx'
      obtain ⟨m, hm, rfl⟩ := List.getElem_of_mem hx'
      rw [List.length_take] at hm
      rw [List.getElem_take]
      rcases asc_le hs (List.getElem?_eq_getElem (by omega)) hx (by omega : m ≤ h) with he | he
      · rw [he]; exact hc
      · exact ltC_sto.trans _ _ _ he hc
    · rw [ltC_ord] at hc
      refine sr ?_; refine sm ?_; refine yq0 ?_; refine T.blkEnd ?_
      refine T.next ⟨i, h⟩ ⟨by dsimp only; omega, by dsimp only; omega, i3, fun x hx' hlt => ?_⟩ (by dsimp only; omega) zq8 zq4 rfl
      dsimp only at hx'
      obtain ⟨m, hm, rfl⟩ := List.getElem_of_mem hx'
      rw [List.length_drop] at hm
      rw [List.getElem_drop] at hlt
      rcases asc_le hs hx (List.getElem?_eq_getElem (by omega)) (by omega : h ≤ h + m) with he | he
      · rw [← he] at hlt; exact hc hlt
      · exact hc (ltC_sto.trans _ _ _ he hlt)
  · have hije : i = j := by omega
    subst hije
    have hfd := bs_found hs i2 i3 i4
    cases hn : l[i]? with
    | none =>
      have hin : ¬ i < l.length := by have := List.getElem?_eq_none_iff.1 hn; omega
      have hd : decide (t ∈ l) = false := decide_eq_false (by rw [hfd, hn]; simp)
      rw [hd]
      refine sq ?_; refine yq4 ?_; refine sm ?_; refine yq2 ?_; refine yq21 ?_; refine sq ?_; refine yq10 ?_; refine TQ.pv (PV.move rfl) Wanted.none rfl rfl ?_; refine TQ.pv (PV.move rfl) Wanted.none rfl rfl ?_; refine TQ.pv (PV.lss rfl rfl) Wanted.none rfl rfl ?_; refine TQ.pv (PV.move rfl) Wanted.none rfl rfl ?_; refine TQ.setF (d := 39) rfl (by omega) ?_; refine yq3 ?_; refine yq3 ?_; refine yq3 ?_; refine yq3 ?_; refine TQ.pv (PV.pickF rfl rfl rfl) Wanted.none rfl rfl ?_; refine TQ.pv (PV.assign rfl) Wanted.none rfl rfl ?_; refine yq34 ?_
      exact T.retF (Lv.fin (RV.tmp2 rfl rfl rfl) ⟨_, rfl⟩)
    | some s =>
      have hin : i < l.length := (List.getElem?_eq_some_iff.1 hn).1
      obtain ⟨b, off, rfl, hsub⟩ := hv.span hn
      have hcall := compareS_fn s t H
      unfold spV at hcall
      refine sq ?_; refine yq4 ?_; refine sm ?_; refine yq2 ?_; refine yq21 ?_; refine sq ?_; refine yq10 ?_; refine TQ.pv (PV.move rfl) Wanted.none rfl rfl ?_; refine TQ.pv (PV.move rfl) Wanted.none rfl rfl ?_; refine TQ.pv (PV.lss rfl rfl) Wanted.none rfl rfl ?_; refine TQ.pv (PV.move rfl) Wanted.none rfl rfl ?_; refine TQ.setT (d := 39) rfl (by omega) ?_; refine TQ.pv (PV.move rfl) (Wanted.guard rfl rfl rfl) rfl rfl ?_; refine TQ.pv (PV.move rfl) (Wanted.guard rfl rfl rfl) rfl rfl ?_; refine TQ.pv (PV.move rfl) (Wanted.guard rfl rfl rfl) rfl rfl ?_; refine TQ.pv (PV.indexAddr rfl rfl (by omega)) (Wanted.guard rfl rfl rfl) rfl rfl ?_; refine TQ.pv (PV.loadSubAll rfl (by assumption) (by exact rfl)) (Wanted.guard rfl rfl rfl) rfl rfl ?_; refine TQ.pv (PV.loadAll rfl zq0 (by exact rfl)) (Wanted.guard rfl rfl rfl) rfl rfl ?_; refine TQ.callF (vs := [_, _]) (cap := []) (Wanted.guard rfl rfl rfl) rfl rfl rfl hcall ?_
      have hde : decide (ordC s t = 0) = decide (t ∈ l) := by
        rw [decide_eq_decide, eqC_ord, hfd, hn]
        exact ⟨fun h => by rw [h], fun h => by injection h⟩
      refine TQ.pv (PV.eql rfl rfl) (Wanted.guard rfl rfl rfl) rfl rfl ?_; refine TQ.pv (PV.pickT rfl rfl rfl) Wanted.none rfl rfl ?_; refine TQ.pv (PV.assign rfl) Wanted.none rfl rfl ?_; refine yq34 ?_
      rw [hde]
      exact T.retF (Lv.fin (RV.tmp2 rfl rfl rfl) ⟨_, rfl⟩)
/-! ### spans of matches -/
theorem span_fn (m : Mt) (H : Hp) : Fn Tryz.prog 19 #[mtV m] H (fun u _ => u = spV (spm m)) := by
  refine Fn.of_T (vs := [mtV m]) Tryz.func19 rfl rfl fun w => ?_
  unfold mtV
  refine zs3 ?_; (refine T.box Wanted.none rfl rfl zq15 ?_; intro b1); refine sy fun b2 => ?_; refine zs1 ?_; refine yq6 ?_; refine yq6 ?_; refine sv (PV.build rfl zq12) ?_; refine yq9 ?_
  exact T.retF (Lv.fin (v := .agg #[.int .i64 m.b, .int .i64 m.e]) (RV.cell rfl (CV.agg (cs := [.int .i64 m.b, .int .i64 m.e]) rfl (.own zq2) rfl)) rfl)
structure VgG where
  j : Nat
  z : Int
  v : Value
  lv : List (Nat × Obj)
theorem SpV.snoc {v : Value} {lv : List (Nat × Obj)} {l : List Sp} {x : Sp} (h : Vec 57 2 v lv (l.length + 1) (l.flatMap encS ++ encS x)) : SpV v lv (l ++ [x]) := by
  unfold SpV
  rw [List.length_append, List.flatMap_append, List.flatMap_singleton]
  exact h
set_option maxHeartbeats 1000000 in
theorem spans_fn (l : List Mt) (v : Value) (H : Hp) (hv : MtL H v l) (hl : l.length ≤ 1000000) : Fn Tryz.prog 8 #[v] H (fun u H' => SpL H' u (spM l)) := by
  obtain ⟨ad, cap, rfl⟩ := hv.1.len
  refine Fn.of_T (vs := [.slice ad l.length cap]) Tryz.func8 rfl rfl fun w => ?_; refine zs3 ?_; refine yq14 ?_; refine yq11 ?_; refine yq30 ?_; refine yq35 ?_
  refine T.loop (γ := VgG) (fun g => g.j ≤ l.length ∧ SpV g.v g.lv ((l.take g.j).map spm))
    (fun g => [(8, .int .i64 (g.j : Int)), (7, .int .i64 (l.length : Int)), (6, .slice ad l.length cap), (3, g.v)])
    (fun g => g.lv) (fun _ => H) (fun g => l.length - g.j) ⟨0, 0, .slice none 0 0, []⟩ ⟨by simp, Vec.nil 57 2⟩ zq8 zq4 rfl ?_
  rintro ⟨j, z, u, lv⟩ ⟨j1, j3⟩
  dsimp only at j1 j3 ⊢
  have hlen : ((l.take j).map spm).length = j := by rw [List.length_map, List.length_take]; omega
  by_cases hj : j < l.length
  · obtain ⟨m, hx⟩ : ∃ x, l[j]? = some x := ⟨_, List.getElem?_eq_getElem hj⟩
    obtain ⟨b, off, rfl, hsub⟩ := hv.1.matchAt hx
    have hcall := span_fn m H
    obtain ⟨am, cm, hmv⟩ := (hv.2 m (List.mem_of_getElem? hx)).1.len
    unfold mtV spV at hcall
    rw [hmv] at hcall hsub
    have hsn : (l.take (j + 1)).map spm = (l.take j).map spm ++ [spm m] := by rw [List.take_add_one, hx, List.map_append]; rfl
    refine yq16 ?_; refine sC rfl (by omega) ?_; refine yq25 ?_; refine zs3 ?_; refine yq5 ?_; refine sy fun b5 => ?_; refine T.storeA Wanted.none rfl rfl zq8 (by exact rfl) zq14 zq13 ?_; refine zs2 ?_; refine sm ?_; refine sv (PV.loadAll rfl zq0 (by exact rfl)) ?_; refine T.callV Wanted.none rfl rfl (hcall) ?_; (refine T.buildSlice Wanted.none rfl rfl zq11 (by exact rfl) (by exact rfl) ?_; intro b15); refine T.appendE [_, _] (lv := lv) Wanted.none rfl rfl rfl j3 (Src.cells (m := 1) (ys := encS (spm m)) (.own zq2) rfl rfl) (one_encS (spm m)) (by omega) ?_
    intro v2 lv2 hv2 _
    refine yq0 ?_; refine yq33 ?_; refine yq23 ?_
    refine T.next ⟨j + 1, 0, v2, lv2⟩ ⟨by dsimp only; omega, ?_⟩ (by dsimp only; omega) zq8 zq4 rfl
    dsimp only
    rw [hsn]
    exact SpV.snoc hv2
  · rw [List.take_of_length_le (by omega)] at j3
    have hsl : (sortC (l.map spm)).length = (l.map spm).length := List.length_mergeSort _
    have hml : (l.map spm).length = l.length := List.length_map ..
    have hsp : spM l = dedupAdj (sortC (l.map spm)) := spansOf_eq (spansL_sorted _) (spansL_mem _)
    refine yq16 ?_; refine yq21 ?_; refine yq4 ?_; refine T.callW Wanted.none rfl rfl (sortG_fn 21 _ u lv _ (fun x y => compareS_fn x y _) j3 (by omega)) Pick.all ?_
    rintro v2 H2 l2 _ ⟨rfl, rfl, hv2⟩
    refine zs1 ?_; refine sm ?_; refine T.callW Wanted.none rfl rfl (compact_fn _ u l2 _ hv2 (by omega)) Pick.allA ?_
    rintro v3 H3 l3 _ ⟨rfl, hv3⟩
    refine yq0 ?_
    rw [hsp]
    exact T.retF (Vec.freezeLv (l' := []) hv3 (by rw [List.append_nil]; first | exact List.Sublist.refl _ | exact List.sublist_append_left l3 _) fun H' _ hsl => Lv.fin (RV.tmp rfl rfl) hsl)
/-! ### each -/
section
variable {P : Program} {X : Cx} {e : Env} {l : List (Nat × Obj)} {H : Hp} {D : List Deferred} {k : List It} {all : Array Oper} {rest : List Oper} {dst : Option Tmp} {ty : TypeId} {pos : String} {after : Array Edge} {gd : Option (Nat × Bool)}
theorem PV.makeFuncB {f : Go.Fn} {x : Operand} {v : Value} (hx : evE e x = some v) : PV P e l H ⟨dst, .makeFunc f #[x] #[], ty, pos, after, gd⟩ (.func f #[v] #[]) := PV.mk fun X D a w ha hw => by
  simp [execOp, Instr.makeFunc, ha.eval hx]
theorem T.callFB {d : Nat} {f : FuncId} [hE : Ent P f] {x : Operand} {xs : List Operand} {ts : Array TypeId} {vs first : List Value} {R : Value → Hp → Prop} (hw : Wanted e all ⟨some d, .call ⟨.value x, xs.toArray, ts⟩, ty, pos, after, gd⟩) (hN : Nat.blt d X.N = true)
    (hx : evE e x = some (.func (.func f) first.toArray #[])) (hv : evL e xs = some vs) (hf : Fn P f (first ++ vs).toArray H R)
    (h : ∀ v H', H.le H' → R v H' → T P X ((d, v) :: e) l H' D (.ops all rest :: k)) :
    T P X e l H D (.ops all (⟨some d, .call ⟨.value x, xs.toArray, ts⟩, ty, pos, after, gd⟩ :: rest) :: k) :=
  T.enter (d := d) hw rfl hN (fun a w ha => by
    have := evL_map ha xs vs hv
    have hE' := hE.h (first ++ vs).toArray w
    simp [execOp, resolve, ha.eval hx, Deferred.ofValue, invoke, List.map_toArray, this]
    simpa using hE') hf h
end
theorem pick_take {c : List Sp} {l : List Mt} {i : Nat} {m : Mt} (hx : l[i]? = some m) : pickM c (l.take (i + 1)) = if spm m ∈ c then pickM c (l.take i) ++ [m] else pickM c (l.take i) := by
  unfold pickM
  rw [List.take_add_one, hx, Option.toList_some, List.filter_append]
  by_cases h : spm m ∈ c
  · rw [if_pos h]; simp [h]
  · rw [if_neg h]; simp [h]
theorem each2_fn (l : List Sp) (v : Value) (H : Hp) (hv : SpL H v l) : Fn Tryz.prog 90 #[v] H (fun u H' => SpL H' u l) := by
  refine Fn.of_T (vs := [v]) Tryz.func90 rfl rfl fun w => ?_; refine zs3 ?_; refine yq28 ?_; refine yq0 ?_
  exact T.retF (Lv.fin (RV.tmp rfl rfl) hv)
structure ChG where
  j : Nat
  a : List Mt
  v : Value
  lv : List (Nat × Obj)
  H : Hp
set_option maxHeartbeats 4000000 in
theorem choose0_fn (l : List Mt) (v : Value) (H : Hp) (hv : MtL H v l) (hl : l.length ≤ 1000000) (hokm : ∀ m ∈ l, okS (spm m)) (hasc : ascM l) : Fn Tryz.prog 42 #[.int .i64 0, v] H (fun u H' => ∃ v' a, u = .tuple #[v', .int .i64 0] ∧ MtL H' v' a ∧ a.map keyM = l.map keyM) := by
  obtain ⟨ad, cap, rfl⟩ := hv.1.len
  refine Fn.of_T (vs := [.int .i64 0, .slice ad l.length cap]) Tryz.func42 rfl rfl fun w => ?_; refine zs3 ?_; refine sa ?_; refine yq11 ?_; refine yq4 ?_; refine sv (PV.lss rfl rfl) ?_; refine sm ?_; refine gm ?_; refine gv (PV.gtr rfl rfl) ?_; refine sF ?_; refine so ?_; refine yq7 ?_; refine sq ?_; refine yq30 ?_; refine yq35 ?_
  refine T.loop (γ := Nat) (fun i => i ≤ l.length)
    (fun i => [(25, .int .i64 (i : Int)), (24, .int .i64 (l.length : Int)), (23, .slice ad l.length cap), (0, .int .i64 0), (1, .slice ad l.length cap)])
    (fun _ => []) (fun _ => H) (fun i => l.length - i) 0 (Nat.zero_le _) zq8 zq4 rfl ?_
  intro i i1
  by_cases hi : i < l.length
  · obtain ⟨m, hx⟩ : ∃ x, l[i]? = some x := ⟨_, List.getElem?_eq_getElem hi⟩
    obtain ⟨b, off, rfl, hsub⟩ := hv.1.matchAt hx
    have hmem := List.mem_of_getElem? hx
    obtain ⟨am, cm, hmv⟩ := (hv.2 m hmem).1.len
    rw [hmv] at hsub
    obtain ⟨h2, h1⟩ : 0 ≤ m.b ∧ m.b < m.e := hokm m hmem
    refine yq16 ?_; refine sC rfl (by omega) ?_; refine yq25 ?_; refine zs3 ?_; refine yq5 ?_; refine sy fun b7 => ?_; refine yq13 ?_; refine yq6 ?_; refine yq6 ?_; refine sv (PV.geq rfl rfl) ?_; refine sm ?_; refine T.setF (d := 34) rfl (by omega) ?_; refine yq26 ?_; refine gv (PV.lss rfl rfl) ?_; refine sF ?_; refine so ?_; refine sd rfl (by omega) ?_; refine T.skip ?_; refine yq33 ?_; refine yq23 ?_
    exact T.next (i + 1) (by omega) (by omega) zq8 zq4 rfl
  refine yq16 ?_; refine yq21 ?_; refine sq ?_; refine zs3 ?_; refine yq0 ?_; refine T.block ?_
  refine T.loop (γ := Nat) (fun _ => True)
    (fun j => [(8, .int .i64 ((j + 1 : Nat) : Int)), (0, .int .i64 0), (1, .slice ad l.length cap)])
    (fun _ => []) (fun _ => H) (fun j => l.length - j) 0 trivial zq8 zq4 rfl ?_
  intro j _
  by_cases hj : j + 1 < l.length
  · obtain ⟨y, hy⟩ : ∃ x, l[j + 1]? = some x := ⟨_, List.getElem?_eq_getElem hj⟩
    obtain ⟨x, hx⟩ : ∃ x, l[j]? = some x := ⟨_, List.getElem?_eq_getElem (by omega)⟩
    obtain ⟨b, off, rfl, hsub1⟩ := hv.1.matchAt hx
    obtain ⟨b', off', e, hsub2⟩ := hv.1.matchAt hy
    injection e with e
    injection e with e1 e2
    subst e1 e2
    have hsub3 : SubC H b (off + (((j + 1 : Nat) : Int) - 1).toNat * 3) [.int .i64 x.b, .int .i64 x.e, x.v] := by
      rwa [show (((j + 1 : Nat) : Int) - 1).toNat = j by omega]
    clear hsub1
    have hcall := matchCompare_fn x y H (hv.2 x (List.mem_of_getElem? hx)) (hv.2 y (List.mem_of_getElem? hy))
    unfold mtV at hcall
    have hc : cmpL (keyM x) (keyM y) < 0 := ascM_adj hasc hx hy
    refine sq ?_; refine yq4 ?_; refine sm ?_; refine sv (PV.lenSl rfl) ?_; refine yq2 ?_; refine sC rfl (by omega) ?_; refine yq25 ?_; refine sq ?_; refine yq10 ?_; refine TQ.pv (PV.move rfl) Wanted.none rfl rfl ?_; refine TQ.pv (PV.sub rfl rfl (by omega)) Wanted.none rfl rfl ?_; refine TQ.pv (PV.indexAddr rfl rfl (by omega)) Wanted.none rfl rfl ?_; refine TQ.pv (PV.loadSubAll rfl (by assumption) (by exact rfl)) Wanted.none rfl rfl ?_; refine TQ.pv (PV.move rfl) Wanted.none rfl rfl ?_; refine yq18 ?_; refine TQ.pv (PV.loadSubAll rfl (by assumption) (by exact rfl)) Wanted.none rfl rfl ?_; refine TQ.callV Wanted.none rfl rfl (hcall) ?_; refine TQ.pv (PV.geq rfl rfl) Wanted.none rfl rfl ?_; refine TQ.nil ?_; refine sd rfl (by omega) ?_; refine T.skip ?_; refine T.blkEnd ?_; refine sr ?_; refine sm ?_; refine sv (PV.add rfl rfl (by omega)) ?_; refine yq0 ?_
    exact T.next (j + 1) trivial (by omega) zq8 zq4 rfl
  have hsl := spM_len l
  refine sq ?_; refine yq4 ?_; refine sm ?_; refine sv (PV.lenSl rfl) ?_; refine yq2 ?_; refine yq21 ?_; refine yq4 ?_; refine T.call Wanted.none rfl rfl (spans_fn l _ H hv hl) ?_
  intro u9 H9 hle9 hu9
  have hs9 := spM_sorted l
  have hok9 := spM_ok hokm
  refine yq28 ?_; refine sv (PV.makeFuncB rfl) ?_; refine sm ?_; refine sv (PV.makeFuncB rfl) ?_; refine sm ?_; refine sv (PV.makeFuncB rfl) ?_; refine sm ?_; refine sv (PV.makeFuncB rfl) ?_; (refine T.buildSlice Wanted.none rfl rfl zq11 (by exact rfl) (by exact rfl) ?_; intro b67); refine yq28 ?_; refine sm ?_; refine sv (PV.indexAddr rfl rfl (by omega)) ?_; refine sl ?_; refine T.callFB (vs := []) (first := [_]) Wanted.none rfl rfl rfl (each2_fn (spM l) u9 H9 hu9) ?_
  intro u11 H11 hle11 hu11
  have hcl := Nat.le_refl (spM l).length
  have hcs := hs9
  have hle := hle9.trans hle11
  have hall : pickM (spM l) l = l := List.filter_eq_self.2 fun m hm => by simpa using spM_mem.2 ⟨m, hm, rfl⟩
  generalize spM l = c at hu11 hcl hcs hall hsl
  refine yq14 ?_; refine yq11 ?_; refine yq30 ?_; refine yq35 ?_
  refine T.loop (γ := ChG) (fun g => g.j ≤ l.length ∧ H11.le g.H ∧ MtV g.v g.lv g.a ∧ (∀ m ∈ g.a, LabOk g.H m) ∧ g.a.map keyM = (pickM c (l.take g.j)).map keyM)
    (fun g => [(75, .int .i64 (g.j : Int)), (74, .int .i64 (l.length : Int)), (73, .slice ad l.length cap), (12, g.v), (11, u11)])
    (fun g => g.lv) (fun g => g.H) (fun g => l.length - g.j) ⟨0, [], .slice none 0 0, [], H11⟩ ⟨by simp, Hp.le.refl _, Vec.nil 71 3, by simp, rfl⟩ zq8 zq4 rfl ?_
  rintro ⟨j, a, u12, lv, Hj⟩ ⟨j1, j2, j3, j4, j5⟩
  dsimp only at j1 j2 j3 j4 j5 ⊢
  have hal : a.length ≤ l.length := by
    have h1 := congrArg List.length j5
    rw [List.length_map, List.length_map] at h1
    have h2 : (pickM c (l.take j)).length ≤ (l.take j).length := List.length_filter_le _ _
    have h3 : (l.take j).length ≤ l.length := List.length_take_le' _ _
    omega
  by_cases hj : j < l.length
  · obtain ⟨m, hx⟩ : ∃ x, l[j]? = some x := ⟨_, List.getElem?_eq_getElem hj⟩
    have hvj := hv.mono (hle.trans j2)
    obtain ⟨b, off, rfl, hsub⟩ := hvj.1.matchAt hx
    have hlab := hvj.2 m (List.mem_of_getElem? hx)
    obtain ⟨am, cm, hmv⟩ := hlab.1.len
    have hcall := span_fn m Hj
    unfold mtV spV at hcall
    rw [hmv] at hcall hsub
    have hpt := pick_take (c := c) hx
    refine yq16 ?_; refine sC rfl (by omega) ?_; refine yq25 ?_; refine zs3 ?_; refine yq5 ?_; refine sy fun b14 => ?_; refine yq13 ?_; refine sm ?_; refine sv (PV.loadAll rfl zq0 (by exact rfl)) ?_; refine T.callV Wanted.none rfl rfl (hcall) ?_; refine T.call Wanted.none rfl rfl (search_fn c (spm m) u11 Hj (hu11.mono j2) (by omega) hcs) ?_
    rintro u83 H83 hle83 ⟨iz, rfl⟩
    by_cases hin : spm m ∈ c
    · rw [if_pos hin] at hpt
      rw [decide_eq_true hin]
      refine sm ?_; refine yq19 ?_; refine sa ?_; refine yq14 ?_; refine yq23 ?_; refine T.condT rfl rfl ?_; refine T.regionOr (lc := [(b14, .cells #[.int .i64 m.b, .int .i64 m.e, .slice am m.ls.length cm] 71 (0, 0))]) zq4 (by kernel_rfl) ?_; refine TO.take 0 rfl (by kernel_rfl) (by kernel_rfl) (by kernel_rfl) (PV.move rfl) Wanted.none rfl rfl ?_; refine TO.take 1 rfl (by kernel_rfl) (by kernel_rfl) (by kernel_rfl) (PV.fieldAddr rfl) Wanted.none rfl rfl ?_; refine TO.take 2 rfl (by kernel_rfl) (by kernel_rfl) (by kernel_rfl) (PV.load1 rfl zq0 rfl) Wanted.none rfl rfl ?_; refine TO.take 3 rfl (by kernel_rfl) (by kernel_rfl) (by kernel_rfl) (PV.fieldAddr rfl) Wanted.none rfl rfl ?_; refine TO.take 4 rfl (by kernel_rfl) (by kernel_rfl) (by kernel_rfl) (PV.load1 rfl zq0 rfl) Wanted.none rfl rfl ?_; refine TO.take 5 rfl (by kernel_rfl) (by kernel_rfl) (by kernel_rfl) (PV.fieldAddr rfl) Wanted.none rfl rfl ?_; refine TO.take 6 rfl (by kernel_rfl) (by kernel_rfl) (by kernel_rfl) (PV.load1 rfl zq0 rfl) Wanted.none rfl rfl ?_; refine TO.step 7 rfl (by kernel_rfl) zq4 zq19 ?_
      have hlab83 := hlab.mono hle83
      rw [LabOk, hmv] at hlab83
      refine T.call Wanted.none rfl rfl (clone_fn m.ls _ H83 hlab83.1 (by have := hlab83.2; omega)) ?_
      intro v' H' hle' hv'
      obtain ⟨a', c', rfl⟩ := hv'.len
      have hlab' : LabOk H' ⟨m.b, m.e, .slice a' m.ls.length c', m.ls⟩ := ⟨hv', hlab.2⟩
      refine so ?_; refine TO.back ?_; refine TO.take 8 rfl (by kernel_rfl) (by kernel_rfl) (by kernel_rfl) (PV.build rfl zq12) Wanted.none rfl rfl ?_; refine TO.step 9 rfl (by kernel_rfl) zq4 zq19 ?_; (refine T.buildSlice Wanted.none rfl rfl zq11 (by exact rfl) (by exact rfl) ?_; intro b96); refine so ?_; refine TO.back ?_; refine TO.step 10 rfl (by kernel_rfl) zq4 zq19 ?_; refine T.appendE [_, _] (lv := lv) Wanted.none rfl rfl rfl j3 (Src.cells (m := 1) (ys := encM ⟨m.b, m.e, .slice a' m.ls.length c', m.ls⟩) (.own zq2) rfl rfl) (one_encM hlab') (by omega) ?_
      intro v2 lv2 hv2 _
      refine so ?_; refine TO.back ?_; refine TO.take 11 rfl (by kernel_rfl) (by kernel_rfl) (by kernel_rfl) (PV.assign rfl) Wanted.none rfl rfl ?_; refine TO.done (by kernel_rfl) zq4 zq19 ?_; refine yq33 ?_; refine yq23 ?_
      refine T.next ⟨j + 1, a ++ [⟨m.b, m.e, .slice a' m.ls.length c', m.ls⟩], v2, lv2, H'⟩ ⟨by dsimp only; omega, (j2.trans hle83).trans hle', MtV.snoc hv2, fun y hy => ?_, ?_⟩ (by dsimp only; omega) zq8 zq4 rfl
      · rcases List.mem_append.1 hy with h | h
        · exact (j4 y h).mono (hle83.trans hle')
        · rw [List.mem_singleton.1 h]; exact hlab'
      · dsimp only
        rw [hpt, List.map_append, List.map_append, j5]; rfl
    · rw [if_neg hin] at hpt
      rw [decide_eq_false hin]
      refine sm ?_; refine yq19 ?_; refine sa ?_; refine yq14 ?_; refine yq23 ?_; refine yq7 ?_; refine yq33 ?_; refine yq23 ?_
      refine T.next ⟨j + 1, a, u12, lv, H83⟩ ⟨by dsimp only; omega, j2.trans hle83, j3, fun y hy => (j4 y hy).mono hle83, ?_⟩ (by dsimp only; omega) zq8 zq4 rfl
      dsimp only
      rw [hpt, j5]
  · rw [List.take_of_length_le (by omega)] at j5
    refine yq16 ?_; refine yq21 ?_; refine yq4 ?_; refine sa ?_; refine yq0 ?_
    exact T.retF (Vec.freezeLv (l' := []) j3 (by rw [List.append_nil]; exact List.Sublist.refl _) fun H' hleF hsl => Lv.fin (RV.tmp2 rfl rfl rfl) ⟨_, a, rfl, ⟨hsl, fun m hm => (j4 m hm).mono hleF⟩, by rw [j5, hall]⟩)

end Go.Proofs.YtbcadnjfegiakaaGreatDoor
