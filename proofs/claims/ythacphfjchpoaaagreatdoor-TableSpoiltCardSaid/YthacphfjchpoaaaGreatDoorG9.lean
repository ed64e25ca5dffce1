/- regions: filters; both Validates; how a region is related to a span.
   regions: the regions of a type, one by one; Holds, Last.
   regions: Holds, Last.
   regions: Last, and the reference's Holds and Last. -/
import Derived.Test.YthacphfjchpoaaaGreatDoorGA
namespace Go.Proofs.YthacphfjchpoaaaGreatDoor
open Go.RowKit

structure Fl where
  op : Int
  nt : Bool
  rg : ByteArray
def flErr (f : Fl) : Int := if f.op < 1 ∨ 3 < f.op then 1 else if validName f.rg then 0 else 4
/-- how a region is related to a span -/
def relB (op : Int) (r : Rg) (s : Sp) : Bool :=
  if op = 1 then decide (r.b ≤ s.1) && decide (s.2 ≤ r.e) else if op = 2 then decide (s.1 ≤ r.b) && decide (r.e ≤ s.2) else decide (r.b < s.2) && decide (s.1 < r.e)
theorem related_fn (op : Int) (r : Rg) (s : Sp) (H : Hp) (hr : RgOk H r) : Fn Tryz.prog 100 #[.int .i64 op, rgV r, spV s] H (fun u _ => u = .bool (relB op r s)) := by
  obtain ⟨ak, ck, hk⟩ := hr.1.len
  unfold rgV spV
  rw [hk]
  refine Fn.of_T (vs := [.int .i64 op, .agg #[.string r.ty, .int .i64 r.b, .int .i64 r.e, .slice ak r.ks.length ck], .agg #[.int .i64 s.1, .int .i64 s.2]]) Tryz.func100 rfl rfl fun w => ?_
  unfold relB
  by_cases h1 : op = 1
  · rw [if_pos h1]
    refine zs3 ?_; (refine T.box Wanted.none rfl rfl zq15 ?_; intro b4); (refine T.box Wanted.none rfl rfl zq15 ?_; intro b5); refine yq127 ?_; refine yq32 ?_; refine yq113 ?_; refine yq41 ?_; refine yq5 ?_; refine sv (PV.leq rfl rfl) ?_; refine sm ?_
    refine T.splitD (d := 15) rfl (fun h0 => ?_) (fun h0 => ?_)
    · refine yq29 ?_; refine yq97 ?_; refine sT ?_; refine yq0 ?_; (exact T.retF (Lv.fin (RV.tmp rfl rfl) (by congr 1; rw [Bool.eq_iff_iff]; simp <;> omega)))
    · refine yq143 ?_; refine yq118 ?_; (exact T.retF (Lv.fin (RV.tmp rfl rfl) (by congr 1; rw [Bool.eq_iff_iff]; simp <;> omega)))
  rw [if_neg h1]
  by_cases h2 : op = 2
  · rw [if_pos h2]
    refine zs3 ?_; (refine T.box Wanted.none rfl rfl zq15 ?_; intro b4); (refine T.box Wanted.none rfl rfl zq15 ?_; intro b5); refine yq127 ?_; refine yq32 ?_; refine yq53 ?_; refine yq113 ?_; refine yq41 ?_; refine yq5 ?_; refine sv (PV.leq rfl rfl) ?_; refine sm ?_
    refine T.splitD (d := 29) rfl (fun h0 => ?_) (fun h0 => ?_)
    · refine yq29 ?_; refine yq97 ?_; refine sT ?_; refine yq0 ?_; (exact T.retF (Lv.fin (RV.tmp rfl rfl) (by congr 1; rw [Bool.eq_iff_iff]; simp <;> omega)))
    · refine yq143 ?_; refine yq118 ?_; (exact T.retF (Lv.fin (RV.tmp rfl rfl) (by congr 1; rw [Bool.eq_iff_iff]; simp <;> omega)))
  rw [if_neg h2]
  refine zs3 ?_; (refine T.box Wanted.none rfl rfl zq15 ?_; intro b4); (refine T.box Wanted.none rfl rfl zq15 ?_; intro b5); refine yq127 ?_; refine yq32 ?_; refine yq53 ?_; refine yq44 ?_; refine yq22 ?_; refine T.blkEnd ?_; refine yq41 ?_; refine yq5 ?_; refine yq49 ?_
  refine T.splitD (d := 41) rfl (fun h0 => ?_) (fun h0 => ?_)
  · refine yq161 ?_; refine yq134 ?_; refine yq0 ?_; (exact T.retF (Lv.fin (RV.tmp rfl rfl) (by congr 1; rw [Bool.eq_iff_iff]; simp <;> omega)))
  · refine yq143 ?_; refine yq118 ?_; (exact T.retF (Lv.fin (RV.tmp rfl rfl) (by congr 1; rw [Bool.eq_iff_iff]; simp <;> omega)))

end Go.Proofs.YthacphfjchpoaaaGreatDoor
namespace Go.Proofs.YthacphfjchpoaaaGreatDoor
open Go.RowKit

def encOf (p : Rg × Nat) : List Value := [.int .i64 (p.2 : Int), rgV p.1]
def ofL (l : List Rg) (kind : ByteArray) : List (Rg × Nat) := l.zipIdx.filter fun p => decide (p.1.ty = kind)
def ofN (l : List Rg) (kind : ByteArray) (i : Nat) : Nat := ((l.zipIdx.take i).filter fun p => decide (p.1.ty = kind)).length
theorem filter_at {α : Type} {p : α → Bool} {l : List α} {i : Nat} {x : α} (h : l[i]? = some x) (hp : p x = true) : (l.filter p)[((l.take i).filter p).length]? = some x := by
  have hi := List.getElem?_eq_some_iff.1 h
  have hl : l = l.take i ++ x :: l.drop (i + 1) := by
    conv => lhs; rw [← List.take_append_drop i l, List.drop_eq_getElem_cons hi.1, hi.2]
  conv => lhs; rw [hl]
  rw [List.filter_append, List.getElem?_append_right (by rw [← hl]; exact Nat.le_refl _), ← hl, Nat.sub_self, List.filter_cons, if_pos hp]
  rfl
theorem zip_at {l : List Rg} {i : Nat} {r : Rg} (h : l[i]? = some r) : l.zipIdx[i]? = some (r, i) := by
  rw [List.getElem?_zipIdx, h]; simp
theorem ofN_in {l : List Rg} {kind : ByteArray} {i : Nat} {r : Rg} (h : l[i]? = some r) (hk : r.ty = kind) : (ofL l kind)[ofN l kind i]? = some (r, i) ∧ ofN l kind (i + 1) = ofN l kind i + 1 := by
  have hz := zip_at h
  refine ⟨filter_at hz (by simp [hk]), ?_⟩
  unfold ofN
  rw [List.take_add_one, hz, List.filter_append, List.length_append]
  simp [hk]
theorem ofN_out {l : List Rg} {kind : ByteArray} {i : Nat} {r : Rg} (h : l[i]? = some r) (hk : ¬ r.ty = kind) : ofN l kind (i + 1) = ofN l kind i := by
  unfold ofN
  rw [List.take_add_one, zip_at h, List.filter_append, List.length_append]
  simp [hk]
theorem ofN_end {l : List Rg} {kind : ByteArray} : ofN l kind l.length = (ofL l kind).length := by
  unfold ofN ofL
  rw [List.take_of_length_le (by simp)]
structure OfG where
  i : Nat
  lc : List (Nat × Obj)
  H : Hp
theorem of_fn (c : Cp) (kind : ByteArray) (H : Hp) : Fn Tryz.prog 99 #[cpV c, .string kind] H (fun u H' => ∃ bc bk, u = .func (.func 128) #[] #[.pointer (some ⟨bc, 0, none⟩), .pointer (some ⟨bk, 0, none⟩)] ∧ H' bc = some (.cells (cpC c).toArray 32 (0, 0)) ∧ H' bk = some (.cells #[.string kind] 9 (0, 0))) := by
  unfold cpV cpC
  refine Fn.of_T (vs := [.agg #[c.va, c.vt, c.vx, c.vr, c.vn, c.vh, c.vs], .string kind]) Tryz.func99 rfl rfl fun w => ?_; refine zs3 ?_; (refine T.box Wanted.none rfl rfl zq15 ?_; intro b2); (refine T.box Wanted.none rfl rfl zq15 ?_; intro b3); refine yq23 ?_; refine sv (PV.makeFunc rfl) ?_; refine yq0 ?_; refine T.freezeB (b := b2) zq1 ?_
  intro H1 hle1 hb1
  refine T.freezeB (b := b3) zq1 ?_
  intro H2 hle2 hb2
  exact T.retF (Lv.fin (RV.tmp rfl rfl) ⟨_, _, rfl, hle2 _ _ hb1, hb2⟩)
set_option maxHeartbeats 1000000 in
theorem of_iter (c : Cp) (kind : ByteArray) (bc bk : Nat) (H : Hp) (hc : CpL H c) (hbc : H bc = some (.cells (cpC c).toArray 32 (0, 0))) (hbk : H bk = some (.cells #[.string kind] 9 (0, 0))) :
    Iter Tryz.prog 128 [.pointer (some ⟨bc, 0, none⟩), .pointer (some ⟨bk, 0, none⟩)] H (ofL c.rg kind) encOf := by
  refine Iter.of_T Tryz.func128 rfl rfl fun x0 L I Ix hY lc Hc h0 hle => ?_
  obtain ⟨aa, ca, at1, ct, ax, cx, ar, cr, an, cn, ah, ch, as1, cs, hcv, ha, ht, hx, hr, hn, hh, hs⟩ := (hc.mono hle).open
  have hlr := hc.lr
  have hbc' := hle _ _ hbc
  have hbk' := hle _ _ hbk
  have hcc : (cpC c).toArray = #[.slice aa c.att.length ca, .slice at1 c.tk.length ct, .slice ax c.tx.length cx, .slice ar c.rg.length cr, .slice an c.nd.length cn, .slice ah c.hd.length ch, .slice as1 c.rl.length cs] := by
    unfold cpV at hcv
    injection hcv
  rw [hcc] at hbc'
  refine yq41 ?_; refine sv (PV.lenSl rfl) ?_; refine yq80 ?_; refine T.loopK [(8, Value.int IntKind.i64 (↑c.rg.length : Int)), (7, Value.slice ar c.rg.length cr), (0, Value.func (Fn.yield L) #[] #[]), (2, Value.pointer (some { block := bk, off := 0 }))] zq8 (γ := OfG) (fun g => g.i ≤ c.rg.length ∧ I (ofN c.rg kind g.i) g.lc g.H ∧ Hc.le g.H) (fun g => [(9, .int .i64 (g.i : Int))]) (fun g => g.lc) (fun g => g.H) (fun g => c.rg.length - g.i) ⟨0, lc, Hc⟩ ⟨by simp, h0, Hp.le.refl _⟩ zq8 (Sel.refl _) rfl ?_
  rintro ⟨i, lc, Hk⟩ ⟨g1, g2, g3⟩
  dsimp only at g1 g2 g3 ⊢
  have hbk2 := g3 _ _ hbk'
  by_cases hi : i < c.rg.length
  · obtain ⟨bx, off, r, rfl, hir, hsub⟩ := RowL.get encRg_len (hr.1.mono g3) hi
    obtain ⟨am, cm, hmv⟩ := (hr.2 r (List.mem_of_getElem? hir)).1.len
    unfold encRg at hsub
    rw [hmv] at hsub
    by_cases hk : r.ty = kind
    · have hd := decide_eq_true hk
      obtain ⟨n1, n2⟩ := ofN_in hir hk
      refine yq155 ?_; refine sy fun b5 => ?_; refine sa ?_; refine yq115 ?_; refine sl ?_; refine sv (PV.seql rfl rfl) ?_; refine sm ?_; refine yq126 ?_; refine T.pv (PV.loadAll rfl zq0 (by exact rfl)) (Wanted.guard rfl rfl (by assumption)) rfl rfl ?_; refine T.setT (d := 18) rfl (by omega) ?_; refine T.yield (li := [_]) hY (Wanted.guard rfl rfl rfl) rfl rfl n1 (by unfold encOf rgV; rw [hmv]; rfl) g2 ?_ ?_
      · intro lc' H' hle' hI'
        refine gv (PV.not rfl) ?_; refine sT ?_; refine yq92 ?_; refine yq61 ?_
        exact T.nextP ⟨i + 1, lc', H'⟩ ⟨by dsimp only; omega, by dsimp only; rw [n2]; exact hI', g3.trans hle'⟩ (by dsimp only; omega) zq8 (by repeat (first | exact Sel.refl _ | exact Sel.nil | (refine Sel.cons zq1 ?_) | (refine Sel.app zq1 ?_) | exact Sel.one zq1)) rfl
      · intro lc' H' hle' hI'
        refine gv (PV.not rfl) ?_; refine yq157 ?_
        exact T.retI rfl lc' zq4 (g3.trans hle') (.inr hI')
    · have hd := decide_eq_false hk
      have n2 := ofN_out hir hk
      refine yq155 ?_; refine sy fun b5 => ?_; refine sa ?_; refine yq115 ?_; refine sl ?_; refine sv (PV.seql rfl rfl) ?_; refine sm ?_; refine yq57 ?_; refine yq57 ?_; refine T.pass (Unwanted.guard rfl rfl (by assumption)) rfl rfl ?_; refine sv (PV.pickF rfl (by assumption) rfl) ?_; refine yq92 ?_; refine yq61 ?_
      exact T.nextP ⟨i + 1, lc, Hk⟩ ⟨by dsimp only; omega, by dsimp only; rw [n2]; exact g2, g3⟩ (by dsimp only; omega) zq8 (by repeat (first | exact Sel.refl _ | exact Sel.nil | (refine Sel.cons zq1 ?_) | (refine Sel.app zq1 ?_) | exact Sel.one zq1)) rfl
  · have hin : i = c.rg.length := by omega
    rw [hin, ofN_end] at g2
    refine yq74 ?_
    exact T.fallI rfl lc zq4 g3 (.inl g2)
end Go.Proofs.YthacphfjchpoaaaGreatDoor
namespace Go.Proofs.YthacphfjchpoaaaGreatDoor
open Go.RowKit

/-- a filter and a span of which nothing is asked -/
def offB (n : Nat) (f : Fl) (s : Sp) : Prop := flErr f ≠ 0 ∨ s.1 < 0 ∨ s.2 ≤ s.1 ∨ (n : Int) < s.2
instance (n : Nat) (f : Fl) (s : Sp) : Decidable (offB n f s) := by unfold offB; infer_instance
theorem ofL_mem {l : List Rg} {kind : ByteArray} {r : Rg} {i : Nat} (h : (r, i) ∈ ofL l kind) : r ∈ l := by
  have := (List.mem_filter.1 h).1
  exact (List.mem_zipIdx' this).2 ▸ List.getElem_mem _
end Go.Proofs.YthacphfjchpoaaaGreatDoor
namespace Go.Proofs.YthacphfjchpoaaaGreatDoor
open Go.RowKit

def lastF (kind : ByteArray) (s : Sp) (a : Int) (p : Rg × Nat) : Int := if p.1.ty = kind ∧ relB 1 p.1 s = true then (p.2 : Int) else a
def lastP (l : List Rg) (kind : ByteArray) (s : Sp) (k : Nat) : Int := (l.zipIdx.take k).foldl (lastF kind s) (-1)
def lastI (l : List Rg) (kind : ByteArray) (s : Sp) : Int := l.zipIdx.foldl (lastF kind s) (-1)
theorem lastP_all (l : List Rg) (kind : ByteArray) (s : Sp) : lastP l kind s l.length = lastI l kind s := by
  unfold lastP lastI; rw [List.take_of_length_le (by simp)]
theorem lastP_step {l : List Rg} {kind : ByteArray} {s : Sp} {k : Nat} {r : Rg} (h : l[k]? = some r) : lastP l kind s (k + 1) = if r.ty = kind ∧ relB 1 r s = true then (k : Int) else lastP l kind s k := by
  unfold lastP
  rw [List.take_add_one, zip_at h, List.foldl_append]
  rfl
theorem lastI_of (l : List Rg) (kind : ByteArray) (s : Sp) : (ofL l kind).foldl (fun a p => if relB 1 p.1 s = true then (p.2 : Int) else a) (-1) = lastI l kind s := by
  unfold ofL lastI
  rw [List.foldl_filter]
  congr 1
  funext a p
  unfold lastF
  by_cases h : p.1.ty = kind <;> simp [h]
theorem lastI_range (l : List Rg) (kind : ByteArray) (s : Sp) : -1 ≤ lastI l kind s ∧ lastI l kind s < l.length := by
  have : ∀ k, k ≤ l.length → -1 ≤ lastP l kind s k ∧ lastP l kind s k < l.length := by
    intro k
    induction k with
    | zero => intro _; unfold lastP; simp; omega
    | succ k ih =>
      intro hk
      obtain ⟨r, hr⟩ : ∃ r, l[k]? = some r := ⟨_, List.getElem?_eq_getElem (by omega)⟩
      rw [lastP_step hr]
      split
      · omega
      · exact ih (by omega)
  rw [← lastP_all]; exact this _ (Nat.le_refl _)
set_option maxHeartbeats 2000000 in
theorem last_in (c : Cp) (kind : ByteArray) (s : Sp) (H : Hp) (hc : CpL H c) : Fn Tryz.prog 73 #[cpV c, .string kind, spV s] H (fun u _ => u = .int .i64 (lastI c.rg kind s)) := by
  have hof := of_fn c kind H
  have hrl := hc.r
  unfold cpV cpC at hof
  unfold cpV spV
  refine Fn.of_T (vs := [.agg #[c.va, c.vt, c.vx, c.vr, c.vn, c.vh, c.vs], .string kind, .agg #[.int .i64 s.1, .int .i64 s.2]]) Tryz.func73 rfl rfl fun w => ?_; refine zs3 ?_; (refine T.box Wanted.none rfl rfl zq15 ?_; intro b3); (refine T.box Wanted.none rfl rfl zq15 ?_; intro b5); refine yq23 ?_; refine sy fun b7 => ?_; refine T.store1 Wanted.none rfl rfl rfl zq14 zq13 ?_; refine so ?_; refine sq ?_; refine yq52 ?_; refine sm ?_; refine T.call Wanted.none rfl rfl hof ?_
  rintro _ H2 hle2 ⟨bc, bk, rfl, hbc, hbk⟩
  refine yq32 ?_
  refine T.rangeFunc rfl rfl (of_iter c kind bc bk H2 (hc.mono hle2) (by unfold cpC; exact hbc) hbk) (fun _ => rfl) rfl (by decide)
    (fun n lk _ => ∃ z : Int, z = ((ofL c.rg kind).take n).foldl (fun a p => if relB 1 p.1 s = true then (p.2 : Int) else a) (-1) ∧ lk = [(b7, .cells #[.int .i64 z] 3 (0, 0)), (b5, .cells #[.int .i64 s.1, .int .i64 s.2] 123 (0, 0)), (b3, .cells #[c.va, c.vt, c.vx, c.vr, c.vn, c.vh, c.vs] 32 (0, 0))])
    (fun cd lk _ => False)
    ⟨_, rfl, rfl⟩ ?_ ?_ ?_
  · rintro n ⟨r, idx⟩ lk Hk hx ⟨z, hz, rfl⟩ hle L rec lo hrec
    have hrm := ofL_mem (List.mem_of_getElem? hx)
    have hrok := (hrl.2 r hrm).mono (hle2.trans hle)
    obtain ⟨ak, ck, hk⟩ := hrok.1.len
    have hrel := related_fn 1 r s Hk hrok
    have hst : ((ofL c.rg kind).take (n + 1)).foldl (fun a p => if relB 1 p.1 s = true then (p.2 : Int) else a) (-1) = if relB 1 r s = true then (idx : Int) else ((ofL c.rg kind).take n).foldl (fun a p => if relB 1 p.1 s = true then (p.2 : Int) else a) (-1) := by
      rw [List.take_add_one, hx, List.foldl_append]; rfl
    rw [← hz] at hst
    unfold encOf
    unfold rgV spV at hrel
    unfold rgV
    dsimp only
    rw [hk] at hrel ⊢
    refine zs3 ?_; refine sa ?_; refine zs2 ?_; refine sy fun b9 => ?_; refine yq13 ?_; refine T.begin (lk := [_, _, _, _]) hrec ?_; refine T.block ?_; refine zs3 ?_; refine yq20 ?_; refine T.callV Wanted.none rfl rfl (hrel) ?_; refine so ?_
    cases hb : relB 1 r s
    · rw [hb, if_neg (by simp)] at hst
      refine yq26 ?_; refine T.blkEnd ?_
      exact T.roundEnd [_, _, _] zq4 (Hp.le.refl _) ⟨_, hst.symm, rfl⟩
    · rw [hb, if_pos rfl] at hst
      refine T.condT rfl rfl ?_; refine yq81 ?_; refine T.store1 Wanted.none rfl rfl rfl zq14 zq13 ?_; refine so ?_; refine T.blkEnd ?_
      exact T.roundEnd [_, _, _] zq4 (Hp.le.refl _) ⟨_, hst.symm, rfl⟩
  · rintro r lk Hk hle ⟨z, hz, rfl⟩
    rw [List.take_length, lastI_of] at hz
    refine T.blkEnd ?_; refine zs3 ?_; refine sl ?_; refine yq0 ?_
    exact T.retF (Lv.mark Upd.head (Lv.fin zq6 (by rw [hz])))
  · rintro cd r lk Hk hle h
    exact h.elim
theorem last_ref (c : Cp) (kind : ByteArray) (s : Sp) (H : Hp) (hc : CpL H c) : Fn Tryz.prog 77 #[cpV c, .string kind, spV s] H (fun u _ => u = .int .i64 (lastI c.rg kind s)) := by
  obtain ⟨aa, ca, at1, ct, ax, cx, ar, cr, an, cn, ah, ch, as1, cs, hcv, ha, ht, hx, hr, hn, hh, hs⟩ := hc.open; rw [hcv]; have hla := hc.la; have hlt := hc.lt; have hlx := hc.lx; have hlr := hc.lr; have hln := hc.ln; have hlh := hc.lh; have hls := hc.ls
  unfold spV
  refine Fn.of_T (vs := [.agg #[.slice aa c.att.length ca, .slice at1 c.tk.length ct, .slice ax c.tx.length cx, .slice ar c.rg.length cr, .slice an c.nd.length cn, .slice ah c.hd.length ch, .slice as1 c.rl.length cs], .string kind, .agg #[.int .i64 s.1, .int .i64 s.2]]) Tryz.func77 rfl rfl fun w => ?_; refine zs3 ?_; (refine T.box Wanted.none rfl rfl zq15 ?_; intro b3); (refine T.box Wanted.none rfl rfl zq15 ?_; intro b5); refine yq0 ?_; refine yq129 ?_; refine yq77 ?_; refine T.block ?_; refine T.loopK [(5, Value.pointer (some { block := b5, off := 0 })), (3, Value.pointer (some { block := b3, off := 0 })), (1, Value.string kind)] zq8 (γ := Nat) (fun k => k ≤ c.rg.length ∧ lastP c.rg kind s k = lastI c.rg kind s) (fun k => [(7, .int .i64 ((k : Int) - 1))]) (fun _ => _) (fun _ => H) (fun k => k) c.rg.length ⟨Nat.le_refl _, lastP_all _ _ _⟩ zq8 (Sel.refl _) rfl ?_
  rintro k ⟨hk1, hk2⟩
  cases k with
  | zero =>
    refine yq14 ?_; refine sv (PV.geq rfl rfl) ?_; refine so ?_; refine yq142 ?_; refine yq25 ?_
    exact T.retF (Lv.fin (RV.tmp rfl rfl) (by rw [← hk2]; rfl))
  | succ k =>
    obtain ⟨bx, off, x, rfl, hix, hsub⟩ := RowL.get encRg_len hr.1 (i := k) (by omega)
    unfold encRg at hsub
    obtain ⟨am, cm, hmv⟩ := (hr.2 x (List.mem_of_getElem? hix)).1.len
    rw [hmv] at hsub
    rw [lastP_step hix] at hk2
    have hcast : ((k + 1 : Nat) : Int) - 1 = (k : Int) := by omega
    rw [hcast]
    have hrel : relB 1 x s = (decide (x.b ≤ s.1) && decide (s.2 ≤ x.e)) := by unfold relB; rw [if_pos rfl]
    rw [hrel] at hk2
    by_cases h0 : x.ty = kind
    · have hd := decide_eq_true h0
      by_cases h1 : x.b ≤ s.1
      · by_cases h2 : s.2 ≤ x.e
        · rw [if_pos ⟨h0, by simp [h1, h2]⟩] at hk2
          refine yq14 ?_; refine sv (PV.geq rfl rfl) ?_; refine yq36 ?_; refine T.skip ?_; refine yq17 ?_; refine yq41 ?_; refine sm ?_; refine yq1 ?_; refine sy fun b8 => ?_; refine yq115 ?_; refine sm ?_; refine sv (PV.seql rfl rfl) ?_; refine sm ?_; refine yq31 ?_; refine yq31 ?_; refine T.pv (PV.leq rfl rfl) (Wanted.guard rfl rfl (by assumption)) rfl rfl ?_; refine sv (PV.pickT rfl (by assumption) rfl) ?_; refine sm ?_; refine T.setT (d := 33) rfl (by omega) ?_; refine yq29 ?_; refine yq97 ?_; refine sT ?_; refine yq46 ?_; refine zs3 ?_
          refine sm ?_; refine yq0 ?_
          exact T.retF (Lv.fin (RV.tmp rfl rfl) (by rw [← hk2]))
        · rw [if_neg (by simp [h2])] at hk2
          refine yq14 ?_; refine sv (PV.geq rfl rfl) ?_; refine yq36 ?_; refine T.skip ?_; refine yq17 ?_; refine yq41 ?_; refine sm ?_; refine yq1 ?_; refine sy fun b8 => ?_; refine yq115 ?_; refine sm ?_; refine sv (PV.seql rfl rfl) ?_; refine sm ?_; refine yq31 ?_; refine yq31 ?_; refine T.pv (PV.leq rfl rfl) (Wanted.guard rfl rfl (by assumption)) rfl rfl ?_; refine sv (PV.pickT rfl (by assumption) rfl) ?_; refine sm ?_; refine T.setT (d := 33) rfl (by omega) ?_; refine yq29 ?_; refine yq97 ?_; refine sT ?_; refine yq88 ?_
          refine yq35 ?_; refine sm ?_; refine yq77 ?_
          exact T.nextP k ⟨by omega, hk2⟩ (by omega) zq8 (by repeat (first | exact Sel.refl _ | exact Sel.nil | (refine Sel.cons zq1 ?_) | (refine Sel.app zq1 ?_) | exact Sel.one zq1)) rfl
      · rw [if_neg (by simp [h1])] at hk2
        refine yq14 ?_; refine sv (PV.geq rfl rfl) ?_; refine yq36 ?_; refine T.skip ?_; refine yq17 ?_; refine yq41 ?_; refine sm ?_; refine yq1 ?_; refine sy fun b8 => ?_; refine yq115 ?_; refine sm ?_; refine sv (PV.seql rfl rfl) ?_; refine sm ?_; refine yq31 ?_; refine yq31 ?_; refine T.pv (PV.leq rfl rfl) (Wanted.guard rfl rfl (by assumption)) rfl rfl ?_; refine sv (PV.pickT rfl (by assumption) rfl) ?_; refine sm ?_; refine T.setF (d := 33) rfl (by omega) ?_; refine yq143 ?_; refine sF ?_; refine yq92 ?_
        refine yq35 ?_; refine sm ?_; refine yq77 ?_
        exact T.nextP k ⟨by omega, hk2⟩ (by omega) zq8 (by repeat (first | exact Sel.refl _ | exact Sel.nil | (refine Sel.cons zq1 ?_) | (refine Sel.app zq1 ?_) | exact Sel.one zq1)) rfl
    · have hd := decide_eq_false h0
      rw [if_neg (by simp [h0])] at hk2
      refine yq14 ?_; refine sv (PV.geq rfl rfl) ?_; refine yq36 ?_; refine T.skip ?_; refine yq17 ?_; refine yq41 ?_; refine sm ?_; refine yq1 ?_; refine sy fun b8 => ?_; refine yq115 ?_; refine sm ?_; refine sv (PV.seql rfl rfl) ?_; refine sm ?_; refine yq57 ?_; refine yq57 ?_; refine T.pass (Unwanted.guard rfl rfl (by assumption)) rfl rfl ?_; refine sv (PV.pickF rfl (by assumption) rfl) ?_; refine sm ?_; refine yq143 ?_; refine sF ?_; refine yq92 ?_; refine T.blkEnd ?_
      refine yq81 ?_; refine yq77 ?_
      exact T.nextP k ⟨by omega, hk2⟩ (by omega) zq8 (by repeat (first | exact Sel.refl _ | exact Sel.nil | (refine Sel.cons zq1 ?_) | (refine Sel.app zq1 ?_) | exact Sel.one zq1)) rfl
end Go.Proofs.YthacphfjchpoaaaGreatDoor
