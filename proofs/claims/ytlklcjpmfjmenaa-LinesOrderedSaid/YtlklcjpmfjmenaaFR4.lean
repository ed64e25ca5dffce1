/- regions: Last, and the reference's Holds and Last. -/
import Derived.Test.YtlklcjpmfjmenaaG9
namespace Go.Proofs.Ytlklcjpmfjmenaa
open Go.RowKit


def lastF (kind : ByteArray) (s : Sp) (a : Int) (p : Rg × Nat) : Int := if p.1.ty = kind ∧ relB 1 p.1 s = true then (p.2 : Int) else a
def lastP (l : List Rg) (kind : ByteArray) (s : Sp) (k : Nat) : Int := (l.zipIdx.take k).foldl (lastF kind s) (-1)
def lastI (l : List Rg) (kind : ByteArray) (s : Sp) : Int := l.zipIdx.foldl (lastF kind s) (-1)
theorem lastP_all (l : List Rg) (kind : ByteArray) (s : Sp) : lastP l kind s l.length = lastI l kind s := by
  unfold lastP lastI; rw [List.take_of_length_le (by simp)]
theorem lastP_step {l : List Rg} {kind : ByteArray} {s : Sp} {k : Nat} {r : Rg} (h : l[k]? = some r) : lastP l kind s (k + 1) = if r.ty = kind ∧ relB 1 r s = true then (k : Int) else lastP l kind s k := by
  unfold lastP
  rw [List.take_add_one, zip_at h, List.foldl_append]
  rfl
theorem lastI_of (l : List Rg) (kind : ByteArray) (s : Sp) : (ofL l kind).foldl (fun a p => if relB 1 p.1 s = true then (p.2 : Int) else a) (-1) = lastI l kind s := by
  unfold ofL lastI
  rw [List.foldl_filter]
  congr 1
  funext a p
  unfold lastF
  by_cases h : p.1.ty = kind <;> simp [h]
theorem lastI_range (l : List Rg) (kind : ByteArray) (s : Sp) : -1 ≤ lastI l kind s ∧ lastI l kind s < l.length := by
  have : ∀ k, k ≤ l.length → -1 ≤ lastP l kind s k ∧ lastP l kind s k < l.length := by
    intro k
    induction k with
    | zero => intro _; unfold lastP; simp; omega
    | succ k ih =>
      intro hk
      obtain ⟨r, hr⟩ : ∃ r, l[k]? = some r := ⟨_, List.getElem?_eq_getElem (by omega)⟩
      rw [lastP_step hr]
      split
      · omega
      · exact ih (by omega)
  rw [← lastP_all]; exact this _ (Nat.le_refl _)
set_option maxHeartbeats 2000000 in
theorem last_in (c : Cp) (kind : ByteArray) (s : Sp) (H : Hp) (hc : CpL H c) : Fn Try.prog 32 #[cpV c, .string kind, spV s] H (fun u _ => u = .int .i64 (lastI c.rg kind s)) := by
  have hof := of_fn c kind H
  have hrl := hc.r
  unfold cpV cpC at hof
  unfold cpV spV
  refine Fn.of_T (vs := [.agg #[c.va, c.vt, c.vx, c.vr, c.vn, c.vh, c.vs], .string kind, .agg #[.int .i64 s.1, .int .i64 s.2]]) Try.func32 rfl rfl fun w => ?_
  refine sq ?_
  refine sr ?_
  (refine T.box Wanted.none rfl rfl zq15 ?_; intro b3)
  (refine T.box Wanted.none rfl rfl zq15 ?_; intro b5)
  refine sa ?_
  refine so ?_
  refine sq ?_
  refine sr ?_
  refine sy fun b7 => ?_
  refine T.store1 Wanted.none rfl rfl rfl zq14 zq13 ?_
  refine so ?_
  refine sq ?_
  refine sq ?_
  refine sr ?_
  refine sv (PV.loadAll rfl zq0 (by exact rfl)) ?_
  refine sm ?_
  refine T.call Wanted.none rfl rfl hof ?_
  rintro _ H2 hle2 ⟨bc, bk, rfl, hbc, hbk⟩
  refine so ?_
  refine T.block ?_
  refine T.rangeFunc rfl rfl (of_iter c kind bc bk H2 (hc.mono hle2) (by unfold cpC; exact hbc) hbk) (fun _ => rfl) rfl (by decide)
    (fun n lk _ => ∃ z : Int, z = ((ofL c.rg kind).take n).foldl (fun a p => if relB 1 p.1 s = true then (p.2 : Int) else a) (-1) ∧ lk = [(b7, .cells #[.int .i64 z] 3 (0, 0)), (b5, .cells #[.int .i64 s.1, .int .i64 s.2] 78 (0, 0)), (b3, .cells #[c.va, c.vt, c.vx, c.vr, c.vn, c.vh, c.vs] 32 (0, 0))])
    (fun cd lk _ => False)
    ⟨_, rfl, rfl⟩ ?_ ?_ ?_
  · rintro n ⟨r, idx⟩ lk Hk hx ⟨z, hz, rfl⟩ hle L rec lo hrec
    have hrm := ofL_mem (List.mem_of_getElem? hx)
    have hrok := (hrl.2 r hrm).mono (hle2.trans hle)
    obtain ⟨ak, ck, hk⟩ := hrok.1.len
    have hrel := related_fn 1 r s Hk hrok
    have hst : ((ofL c.rg kind).take (n + 1)).foldl (fun a p => if relB 1 p.1 s = true then (p.2 : Int) else a) (-1) = if relB 1 r s = true then (idx : Int) else ((ofL c.rg kind).take n).foldl (fun a p => if relB 1 p.1 s = true then (p.2 : Int) else a) (-1) := by
      rw [List.take_add_one, hx, List.foldl_append]; rfl
    rw [← hz] at hst
    unfold encOf
    unfold rgV spV at hrel
    unfold rgV
    dsimp only
    rw [hk] at hrel ⊢
    refine sq ?_
    refine sr ?_
    refine sa ?_
    refine so ?_
    refine sr ?_
    refine sy fun b9 => ?_
    refine T.storeA Wanted.none rfl rfl zq8 (by exact rfl) zq14 zq13 ?_
    refine so ?_
    refine T.begin (lk := [_, _, _, _]) hrec ?_
    refine T.block ?_
    refine sq ?_
    refine sr ?_
    refine sv (PV.loadAll rfl zq0 (by exact rfl)) ?_
    refine sv (PV.loadAll rfl zq0 (by exact rfl)) ?_
    refine T.callV Wanted.none rfl rfl (hrel) ?_
    refine so ?_
    cases hb : relB 1 r s
    · rw [hb, if_neg (by simp)] at hst
      refine T.condF rfl rfl ?_
      refine T.skip ?_
      refine T.blkEnd ?_
      exact T.roundEnd [_, _, _] zq4 (Hp.le.refl _) ⟨_, hst.symm, rfl⟩
    · rw [hb, if_pos rfl] at hst
      refine T.condT rfl rfl ?_
      refine sr ?_
      refine sm ?_
      refine T.store1 Wanted.none rfl rfl rfl zq14 zq13 ?_
      refine so ?_
      refine T.blkEnd ?_
      exact T.roundEnd [_, _, _] zq4 (Hp.le.refl _) ⟨_, hst.symm, rfl⟩
  · rintro r lk Hk hle ⟨z, hz, rfl⟩
    rw [List.take_length, lastI_of] at hz
    refine T.blkEnd ?_
    refine sq ?_
    refine sr ?_
    refine sl ?_
    refine sa ?_
    refine so ?_
    exact T.retF (Lv.mark Upd.head (Lv.fin zq6 (by rw [hz])))
  · rintro cd r lk Hk hle h
    exact h.elim
theorem last_ref (c : Cp) (kind : ByteArray) (s : Sp) (H : Hp) (hc : CpL H c) : Fn Try.prog 33 #[cpV c, .string kind, spV s] H (fun u _ => u = .int .i64 (lastI c.rg kind s)) := by
  obtain ⟨aa, ca, at1, ct, ax, cx, ar, cr, an, cn, ah, ch, as1, cs, hcv, ha, ht, hx, hr, hn, hh, hs⟩ := hc.open; rw [hcv]; have hla := hc.la; have hlt := hc.lt; have hlx := hc.lx; have hlr := hc.lr; have hln := hc.ln; have hlh := hc.lh; have hls := hc.ls
  unfold spV
  refine Fn.of_T (vs := [.agg #[.slice aa c.att.length ca, .slice at1 c.tk.length ct, .slice ax c.tx.length cx, .slice ar c.rg.length cr, .slice an c.nd.length cn, .slice ah c.hd.length ch, .slice as1 c.rl.length cs], .string kind, .agg #[.int .i64 s.1, .int .i64 s.2]]) Try.func33 rfl rfl fun w => ?_
  refine sq ?_
  refine sr ?_
  (refine T.box Wanted.none rfl rfl zq15 ?_; intro b3)
  (refine T.box Wanted.none rfl rfl zq15 ?_; intro b5)
  refine sa ?_
  refine so ?_
  refine sq ?_
  refine sq ?_
  refine sr ?_
  refine sf ?_
  refine sl ?_
  refine sv (PV.lenSl rfl) ?_
  refine sv (PV.sub rfl rfl (by omega)) ?_
  refine sa ?_
  refine so ?_
  refine T.block ?_
  refine T.loopK [(5, Value.pointer (some { block := b5, off := 0 })), (3, Value.pointer (some { block := b3, off := 0 })), (1, Value.string kind)] zq8 (γ := Nat) (fun k => k ≤ c.rg.length ∧ lastP c.rg kind s k = lastI c.rg kind s) (fun k => [(7, .int .i64 ((k : Int) - 1))]) (fun _ => _) (fun _ => H) (fun k => k) c.rg.length ⟨Nat.le_refl _, lastP_all _ _ _⟩ zq8 (Sel.refl _) rfl ?_
  rintro k ⟨hk1, hk2⟩
  cases k with
  | zero =>
    refine sq ?_
    refine sq ?_
    refine sr ?_
    refine sm ?_
    refine sv (PV.geq rfl rfl) ?_
    refine so ?_
    refine T.condF rfl rfl ?_
    refine T.exit rfl ?_
    refine sq ?_
    refine sr ?_
    refine sa ?_
    refine so ?_
    exact T.retF (Lv.fin (RV.tmp rfl rfl) (by rw [← hk2]; rfl))
  | succ k =>
    obtain ⟨bx, off, x, rfl, hix, hsub⟩ := RowL.get encRg_len hr.1 (i := k) (by omega)
    unfold encRg at hsub
    obtain ⟨am, cm, hmv⟩ := (hr.2 x (List.mem_of_getElem? hix)).1.len
    rw [hmv] at hsub
    rw [lastP_step hix] at hk2
    have hcast : ((k + 1 : Nat) : Int) - 1 = (k : Int) := by omega
    rw [hcast]
    have hrel : relB 1 x s = (decide (x.b ≤ s.1) && decide (s.2 ≤ x.e)) := by unfold relB; rw [if_pos rfl]
    rw [hrel] at hk2
    by_cases h0 : x.ty = kind
    · have hd := decide_eq_true h0
      by_cases h1 : x.b ≤ s.1
      · by_cases h2 : s.2 ≤ x.e
        · rw [if_pos ⟨h0, by simp [h1, h2]⟩] at hk2
          refine sq ?_
          refine sq ?_
          refine sr ?_
          refine sm ?_
          refine sv (PV.geq rfl rfl) ?_
          refine so ?_
          refine T.condT rfl rfl ?_
          refine T.skip ?_
          refine sq ?_
          refine T.block ?_
          refine sq ?_
          refine sr ?_
          refine sf ?_
          refine sl ?_
          refine sm ?_
          refine sv (PV.indexAddr rfl rfl (by omega)) ?_
          refine sv (PV.loadSubAll rfl (by assumption) (by exact rfl)) ?_
          refine sy fun b8 => ?_
          refine T.storeA Wanted.none rfl rfl zq8 (by exact rfl) zq14 zq13 ?_
          refine so ?_
          refine sq ?_
          refine sr ?_
          refine sf ?_
          refine sl ?_
          refine sm ?_
          refine sv (PV.seql rfl rfl) ?_
          refine sm ?_
          refine T.pv (PV.fieldAddr rfl) (Wanted.guard rfl rfl (by assumption)) rfl rfl ?_
          refine T.pv (PV.load1 rfl zq0 rfl) (Wanted.guard rfl rfl (by assumption)) rfl rfl ?_
          refine T.pv (PV.fieldAddr rfl) (Wanted.guard rfl rfl (by assumption)) rfl rfl ?_
          refine T.pv (PV.load1 rfl zq0 rfl) (Wanted.guard rfl rfl (by assumption)) rfl rfl ?_
          refine T.pv (PV.leq rfl rfl) (Wanted.guard rfl rfl (by assumption)) rfl rfl ?_
          refine sv (PV.pickT rfl (by assumption) rfl) ?_
          refine sm ?_
          refine T.setT (d := 33) rfl (by omega) ?_
          refine gf ?_
          refine gl ?_
          refine gf ?_
          refine gl ?_
          refine gv (PV.leq rfl rfl) ?_
          refine sT ?_
          refine so ?_
          refine sc rfl (by omega) ?_
          refine sq ?_
          refine sr ?_
          refine sm ?_
          refine sa ?_
          refine so ?_
          exact T.retF (Lv.fin (RV.tmp rfl rfl) (by rw [← hk2]))
        · rw [if_neg (by simp [h2])] at hk2
          refine sq ?_
          refine sq ?_
          refine sr ?_
          refine sm ?_
          refine sv (PV.geq rfl rfl) ?_
          refine so ?_
          refine T.condT rfl rfl ?_
          refine T.skip ?_
          refine sq ?_
          refine T.block ?_
          refine sq ?_
          refine sr ?_
          refine sf ?_
          refine sl ?_
          refine sm ?_
          refine sv (PV.indexAddr rfl rfl (by omega)) ?_
          refine sv (PV.loadSubAll rfl (by assumption) (by exact rfl)) ?_
          refine sy fun b8 => ?_
          refine T.storeA Wanted.none rfl rfl zq8 (by exact rfl) zq14 zq13 ?_
          refine so ?_
          refine sq ?_
          refine sr ?_
          refine sf ?_
          refine sl ?_
          refine sm ?_
          refine sv (PV.seql rfl rfl) ?_
          refine sm ?_
          refine T.pv (PV.fieldAddr rfl) (Wanted.guard rfl rfl (by assumption)) rfl rfl ?_
          refine T.pv (PV.load1 rfl zq0 rfl) (Wanted.guard rfl rfl (by assumption)) rfl rfl ?_
          refine T.pv (PV.fieldAddr rfl) (Wanted.guard rfl rfl (by assumption)) rfl rfl ?_
          refine T.pv (PV.load1 rfl zq0 rfl) (Wanted.guard rfl rfl (by assumption)) rfl rfl ?_
          refine T.pv (PV.leq rfl rfl) (Wanted.guard rfl rfl (by assumption)) rfl rfl ?_
          refine sv (PV.pickT rfl (by assumption) rfl) ?_
          refine sm ?_
          refine T.setT (d := 33) rfl (by omega) ?_
          refine gf ?_
          refine gl ?_
          refine gf ?_
          refine gl ?_
          refine gv (PV.leq rfl rfl) ?_
          refine sT ?_
          refine so ?_
          refine sd rfl (by omega) ?_
          refine T.skip ?_
          refine T.blkEnd ?_
          refine sr ?_
          refine sm ?_
          refine sv (PV.sub rfl rfl (by omega)) ?_
          refine sa ?_
          refine so ?_
          exact T.nextP k ⟨by omega, hk2⟩ (by omega) zq8 (by repeat (first | exact Sel.refl _ | exact Sel.nil | (refine Sel.cons zq1 ?_) | (refine Sel.app zq1 ?_) | exact Sel.one zq1)) rfl
      · rw [if_neg (by simp [h1])] at hk2
        refine sq ?_
        refine sq ?_
        refine sr ?_
        refine sm ?_
        refine sv (PV.geq rfl rfl) ?_
        refine so ?_
        refine T.condT rfl rfl ?_
        refine T.skip ?_
        refine sq ?_
        refine T.block ?_
        refine sq ?_
        refine sr ?_
        refine sf ?_
        refine sl ?_
        refine sm ?_
        refine sv (PV.indexAddr rfl rfl (by omega)) ?_
        refine sv (PV.loadSubAll rfl (by assumption) (by exact rfl)) ?_
        refine sy fun b8 => ?_
        refine T.storeA Wanted.none rfl rfl zq8 (by exact rfl) zq14 zq13 ?_
        refine so ?_
        refine sq ?_
        refine sr ?_
        refine sf ?_
        refine sl ?_
        refine sm ?_
        refine sv (PV.seql rfl rfl) ?_
        refine sm ?_
        refine T.pv (PV.fieldAddr rfl) (Wanted.guard rfl rfl (by assumption)) rfl rfl ?_
        refine T.pv (PV.load1 rfl zq0 rfl) (Wanted.guard rfl rfl (by assumption)) rfl rfl ?_
        refine T.pv (PV.fieldAddr rfl) (Wanted.guard rfl rfl (by assumption)) rfl rfl ?_
        refine T.pv (PV.load1 rfl zq0 rfl) (Wanted.guard rfl rfl (by assumption)) rfl rfl ?_
        refine T.pv (PV.leq rfl rfl) (Wanted.guard rfl rfl (by assumption)) rfl rfl ?_
        refine sv (PV.pickT rfl (by assumption) rfl) ?_
        refine sm ?_
        refine T.setF (d := 33) rfl (by omega) ?_
        refine sp ?_
        refine sp ?_
        refine sp ?_
        refine sp ?_
        refine sp ?_
        refine sF ?_
        refine so ?_
        refine T.condF rfl rfl ?_
        refine T.skip ?_
        refine T.blkEnd ?_
        refine sr ?_
        refine sm ?_
        refine sv (PV.sub rfl rfl (by omega)) ?_
        refine sa ?_
        refine so ?_
        exact T.nextP k ⟨by omega, hk2⟩ (by omega) zq8 (by repeat (first | exact Sel.refl _ | exact Sel.nil | (refine Sel.cons zq1 ?_) | (refine Sel.app zq1 ?_) | exact Sel.one zq1)) rfl
    · have hd := decide_eq_false h0
      rw [if_neg (by simp [h0])] at hk2
      refine sq ?_
      refine sq ?_
      refine sr ?_
      refine sm ?_
      refine sv (PV.geq rfl rfl) ?_
      refine so ?_
      refine T.condT rfl rfl ?_
      refine T.skip ?_
      refine sq ?_
      refine T.block ?_
      refine sq ?_
      refine sr ?_
      refine sf ?_
      refine sl ?_
      refine sm ?_
      refine sv (PV.indexAddr rfl rfl (by omega)) ?_
      refine sv (PV.loadSubAll rfl (by assumption) (by exact rfl)) ?_
      refine sy fun b8 => ?_
      refine T.storeA Wanted.none rfl rfl zq8 (by exact rfl) zq14 zq13 ?_
      refine so ?_
      refine sq ?_
      refine sr ?_
      refine sf ?_
      refine sl ?_
      refine sm ?_
      refine sv (PV.seql rfl rfl) ?_
      refine sm ?_
      refine T.pass (Unwanted.guard rfl rfl (by assumption)) rfl rfl ?_
      refine T.pass (Unwanted.guard rfl rfl (by assumption)) rfl rfl ?_
      refine T.pass (Unwanted.guard rfl rfl (by assumption)) rfl rfl ?_
      refine T.pass (Unwanted.guard rfl rfl (by assumption)) rfl rfl ?_
      refine T.pass (Unwanted.guard rfl rfl (by assumption)) rfl rfl ?_
      refine sv (PV.pickF rfl (by assumption) rfl) ?_
      refine sm ?_
      refine sp ?_
      refine sp ?_
      refine sp ?_
      refine sp ?_
      refine sp ?_
      refine sF ?_
      refine so ?_
      refine T.condF rfl rfl ?_
      refine T.skip ?_
      refine T.blkEnd ?_
      refine sr ?_
      refine sm ?_
      refine sv (PV.sub rfl rfl (by omega)) ?_
      refine sa ?_
      refine so ?_
      exact T.nextP k ⟨by omega, hk2⟩ (by omega) zq8 (by repeat (first | exact Sel.refl _ | exact Sel.nil | (refine Sel.cons zq1 ?_) | (refine Sel.app zq1 ?_) | exact Sel.one zq1)) rfl
end Go.Proofs.Ytlklcjpmfjmenaa
