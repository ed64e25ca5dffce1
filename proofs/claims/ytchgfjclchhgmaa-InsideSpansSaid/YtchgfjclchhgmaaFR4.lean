/- regions: Last, and the reference's Holds and Last. -/
import Derived.Test.YtchgfjclchhgmaaG9
namespace Go.Proofs.Ytchgfjclchhgmaa
open Go.RowKit

theorem T.cutG2 {P : Program} {X : Cx} {e : Env} {l : List (Nat × Obj)} {H : Hp} {D : List Deferred} {k : List It} {a : It} {γ : Type} (ek : Env) (C : γ → Prop) (ch : γ → Env) (K : ∀ g, C g → T P X (ch g ++ ek) l H D k)
    (h : (∀ g e' l', Env.Sub (ch g ++ ek) e' → Sel l' l → C g → T P X e' l' H D k) → T P X e l H D (a :: k)) : T P X e l H D (a :: k) :=
  h fun g _ _ he hl hc => T.sel hl (T.weak he (List.Sublist.refl _) (K g hc))
def lastF (kind : ByteArray) (s : Sp) (a : Int) (p : Rg × Nat) : Int := if p.1.ty = kind ∧ relB 1 p.1 s = true then (p.2 : Int) else a
def lastP (l : List Rg) (kind : ByteArray) (s : Sp) (k : Nat) : Int := (l.zipIdx.take k).foldl (lastF kind s) (-1)
def lastI (l : List Rg) (kind : ByteArray) (s : Sp) : Int := l.zipIdx.foldl (lastF kind s) (-1)
theorem lastP_all (l : List Rg) (kind : ByteArray) (s : Sp) : lastP l kind s l.length = lastI l kind s := by
  unfold lastP lastI; rw [List.take_of_length_le (by simp)]
theorem lastP_step {l : List Rg} {kind : ByteArray} {s : Sp} {k : Nat} {r : Rg} (h : l[k]? = some r) : lastP l kind s (k + 1) = if r.ty = kind ∧ relB 1 r s = true then (k : Int) else lastP l kind s k := by
  unfold lastP
  rw [List.take_add_one, zip_at h, List.foldl_append]
  rfl
theorem lastI_of (l : List Rg) (kind : ByteArray) (s : Sp) : (ofL l kind).foldl (fun a p => if relB 1 p.1 s = true then (p.2 : Int) else a) (-1) = lastI l kind s := by
  unfold ofL lastI
  rw [List.foldl_filter]
  congr 1
  funext a p
  unfold lastF
  by_cases h : p.1.ty = kind <;> simp [h]
theorem lastI_range (l : List Rg) (kind : ByteArray) (s : Sp) : -1 ≤ lastI l kind s ∧ lastI l kind s < l.length := by
  have : ∀ k, k ≤ l.length → -1 ≤ lastP l kind s k ∧ lastP l kind s k < l.length := by
    intro k
    induction k with
    | zero => intro _; unfold lastP; simp; omega
    | succ k ih =>
      intro hk
      obtain ⟨r, hr⟩ : ∃ r, l[k]? = some r := ⟨_, List.getElem?_eq_getElem (by omega)⟩
      rw [lastP_step hr]
      split
      · omega
      · exact ih (by omega)
  rw [← lastP_all]; exact this _ (Nat.le_refl _)
set_option maxHeartbeats 2000000 in
theorem last_in (c : Cp) (kind : ByteArray) (s : Sp) (H : Hp) (hc : CpL H c) : Fn Try.prog 15 #[cpV c, .string kind, spV s] H (fun u _ => u = .int .i64 (lastI c.rg kind s)) := by
  have hof := of_fn c kind H
  have hrl := hc.r
  unfold cpV cpC at hof
  unfold cpV spV
  refine Fn.of_T (vs := [.agg #[c.va, c.vt, c.vx, c.vr, c.vn, c.vh, c.vs], .string kind, .agg #[.int .i64 s.1, .int .i64 s.2]]) Try.func15 rfl rfl fun w => ?_
  refine T.seq ?_
  refine T.region ?_
  (refine T.box Wanted.none rfl rfl zq15 ?_; intro b3)
  (refine T.box Wanted.none rfl rfl zq15 ?_; intro b5)
  refine T.pv (PV.assign rfl) Wanted.none rfl rfl ?_
  refine T.opsNil ?_
  refine T.seq ?_
  refine T.region ?_
  (refine T.alloc Wanted.none rfl ?_; intro b7)
  refine T.store1 Wanted.none rfl rfl rfl zq14 zq13 ?_
  refine T.opsNil ?_
  refine T.seq ?_
  refine T.seq ?_
  refine T.region ?_
  refine T.pv (PV.loadAll rfl zq0 (by exact rfl)) Wanted.none rfl rfl ?_
  refine T.pv (PV.move rfl) Wanted.none rfl rfl ?_
  refine T.call Wanted.none rfl rfl hof ?_
  rintro _ H2 hle2 ⟨bc, bk, rfl, hbc, hbk⟩
  refine T.opsNil ?_
  refine T.block ?_
  refine T.rangeFunc rfl rfl (of_iter c kind bc bk H2 (hc.mono hle2) (by unfold cpC; exact hbc) hbk) (fun _ => rfl) rfl (by decide)
    (fun n lk _ => ∃ z : Int, z = ((ofL c.rg kind).take n).foldl (fun a p => if relB 1 p.1 s = true then (p.2 : Int) else a) (-1) ∧ lk = [(b7, .cells #[.int .i64 z] 3 (0, 0)), (b5, .cells #[.int .i64 s.1, .int .i64 s.2] 25 (0, 0)), (b3, .cells #[c.va, c.vt, c.vx, c.vr, c.vn, c.vh, c.vs] 33 (0, 0))])
    (fun cd lk _ => False)
    ⟨_, rfl, rfl⟩ ?_ ?_ ?_
  · rintro n ⟨r, idx⟩ lk Hk hx ⟨z, hz, rfl⟩ hle L rec lo hrec
    have hrm := ofL_mem (List.mem_of_getElem? hx)
    have hrok := (hrl.2 r hrm).mono (hle2.trans hle)
    obtain ⟨ak, ck, hk⟩ := hrok.1.len
    have hrel := related_fn 1 r s Hk hrok
    have hst : ((ofL c.rg kind).take (n + 1)).foldl (fun a p => if relB 1 p.1 s = true then (p.2 : Int) else a) (-1) = if relB 1 r s = true then (idx : Int) else ((ofL c.rg kind).take n).foldl (fun a p => if relB 1 p.1 s = true then (p.2 : Int) else a) (-1) := by
      rw [List.take_add_one, hx, List.foldl_append]; rfl
    rw [← hz] at hst
    unfold encOf
    unfold rgV spV at hrel
    unfold rgV
    dsimp only
    rw [hk] at hrel ⊢
    refine T.seq ?_
    refine T.region ?_
    refine T.pv (PV.assign rfl) Wanted.none rfl rfl ?_
    refine T.opsNil ?_
    refine T.region ?_
    (refine T.alloc Wanted.none rfl ?_; intro b9)
    refine T.storeA Wanted.none rfl rfl zq8 (by exact rfl) zq14 zq13 ?_
    refine T.opsNil ?_
    refine T.begin (lk := [_, _, _, _]) hrec ?_
    refine T.block ?_
    refine T.seq ?_
    refine T.region ?_
    refine T.pv (PV.loadAll rfl zq0 (by exact rfl)) Wanted.none rfl rfl ?_
    refine T.pv (PV.loadAll rfl zq0 (by exact rfl)) Wanted.none rfl rfl ?_
    refine T.callV Wanted.none rfl rfl (hrel) ?_
    refine T.opsNil ?_
    cases hb : relB 1 r s
    · rw [hb, if_neg (by simp)] at hst
      refine T.condF rfl rfl ?_
      refine T.skip ?_
      refine T.blkEnd ?_
      exact T.roundEnd [_, _, _] zq4 (Hp.le.refl _) ⟨_, hst.symm, rfl⟩
    · rw [hb, if_pos rfl] at hst
      refine T.condT rfl rfl ?_
      refine T.region ?_
      refine T.pv (PV.move rfl) Wanted.none rfl rfl ?_
      refine T.store1 Wanted.none rfl rfl rfl zq14 zq13 ?_
      refine T.opsNil ?_
      refine T.blkEnd ?_
      exact T.roundEnd [_, _, _] zq4 (Hp.le.refl _) ⟨_, hst.symm, rfl⟩
  · rintro r lk Hk hle ⟨z, hz, rfl⟩
    rw [List.take_length, lastI_of] at hz
    refine T.blkEnd ?_
    refine T.seq ?_
    refine T.region ?_
    refine T.pv (PV.load1 rfl zq0 rfl) Wanted.none rfl rfl ?_
    refine T.pv (PV.assign rfl) Wanted.none rfl rfl ?_
    refine T.opsNil ?_
    exact T.retF (Lv.mark Upd.head (Lv.fin zq6 (by rw [hz])))
  · rintro cd r lk Hk hle h
    exact h.elim
theorem last_ref (c : Cp) (kind : ByteArray) (s : Sp) (H : Hp) (hc : CpL H c) : Fn Try.prog 16 #[cpV c, .string kind, spV s] H (fun u _ => u = .int .i64 (lastI c.rg kind s)) := by
  obtain ⟨aa, ca, at1, ct, ax, cx, ar, cr, an, cn, ah, ch, as1, cs, hcv, ha, ht, hx, hr, hn, hh, hs⟩ := hc.open; rw [hcv]; have hla := hc.la; have hlt := hc.lt; have hlx := hc.lx; have hlr := hc.lr; have hln := hc.ln; have hlh := hc.lh; have hls := hc.ls
  unfold spV
  refine Fn.of_T (vs := [.agg #[.slice aa c.att.length ca, .slice at1 c.tk.length ct, .slice ax c.tx.length cx, .slice ar c.rg.length cr, .slice an c.nd.length cn, .slice ah c.hd.length ch, .slice as1 c.rl.length cs], .string kind, .agg #[.int .i64 s.1, .int .i64 s.2]]) Try.func16 rfl rfl fun w => ?_
  refine T.seq ?_
  refine T.region ?_
  (refine T.box Wanted.none rfl rfl zq15 ?_; intro b3)
  (refine T.box Wanted.none rfl rfl zq15 ?_; intro b5)
  refine T.pv (PV.assign rfl) Wanted.none rfl rfl ?_
  refine T.opsNil ?_
  refine T.seq ?_
  refine T.seq ?_
  refine T.region ?_
  refine T.pv (PV.fieldAddr rfl) Wanted.none rfl rfl ?_
  refine T.pv (PV.load1 rfl zq0 rfl) Wanted.none rfl rfl ?_
  refine T.pv (PV.lenSl rfl) Wanted.none rfl rfl ?_
  refine T.pv (PV.sub rfl rfl (by omega)) Wanted.none rfl rfl ?_
  refine T.pv (PV.assign rfl) Wanted.none rfl rfl ?_
  refine T.opsNil ?_
  refine T.block ?_
  refine T.loopK [(5, Value.pointer (some { block := b5, off := 0 })), (3, Value.pointer (some { block := b3, off := 0 })), (1, Value.string kind)] zq8 (γ := Nat) (fun k => k ≤ c.rg.length ∧ lastP c.rg kind s k = lastI c.rg kind s) (fun k => [(7, .int .i64 ((k : Int) - 1))]) (fun _ => _) (fun _ => H) (fun k => k) c.rg.length ⟨Nat.le_refl _, lastP_all _ _ _⟩ zq8 (Sel.refl _) rfl ?_
  rintro k ⟨hk1, hk2⟩
  cases k with
  | zero =>
    refine T.seq ?_
    refine T.seq ?_
    refine T.region ?_
    refine T.pv (PV.move rfl) Wanted.none rfl rfl ?_
    refine T.pv (PV.geq rfl rfl) Wanted.none rfl rfl ?_
    refine T.opsNil ?_
    refine T.condF rfl rfl ?_
    refine T.exit rfl ?_
    refine T.seq ?_
    refine T.region ?_
    refine T.pv (PV.assign rfl) Wanted.none rfl rfl ?_
    refine T.opsNil ?_
    exact T.retF (Lv.fin (RV.tmp rfl rfl) (by rw [← hk2]; rfl))
  | succ k =>
    obtain ⟨bx, off, x, rfl, hix, hsub⟩ := RowL.get encRg_len hr.1 (i := k) (by omega)
    unfold encRg at hsub
    obtain ⟨am, cm, hmv⟩ := (hr.2 x (List.mem_of_getElem? hix)).1.len
    rw [hmv] at hsub
    rw [lastP_step hix] at hk2
    have hcast : ((k + 1 : Nat) : Int) - 1 = (k : Int) := by omega
    rw [hcast]
    have hrel : relB 1 x s = (decide (x.b ≤ s.1) && decide (s.2 ≤ x.e)) := by unfold relB; rw [if_pos rfl]
    rw [hrel] at hk2
    by_cases h0 : x.ty = kind
    · have hd := decide_eq_true h0
      by_cases h1 : x.b ≤ s.1
      · by_cases h2 : s.2 ≤ x.e
        · rw [if_pos ⟨h0, by simp [h1, h2]⟩] at hk2
          refine T.seq ?_
          refine T.seq ?_
          refine T.region ?_
          refine T.pv (PV.move rfl) Wanted.none rfl rfl ?_
          refine T.pv (PV.geq rfl rfl) Wanted.none rfl rfl ?_
          refine T.opsNil ?_
          refine T.condT rfl rfl ?_
          refine T.skip ?_
          refine T.seq ?_
          refine T.block ?_
          refine T.seq ?_
          refine T.region ?_
          refine T.pv (PV.fieldAddr rfl) Wanted.none rfl rfl ?_
          refine T.pv (PV.load1 rfl zq0 rfl) Wanted.none rfl rfl ?_
          refine T.pv (PV.move rfl) Wanted.none rfl rfl ?_
          refine T.pv (PV.indexAddr rfl rfl (by omega)) Wanted.none rfl rfl ?_
          refine T.pv (PV.loadSubAll rfl (by assumption) (by exact rfl)) Wanted.none rfl rfl ?_
          (refine T.alloc Wanted.none rfl ?_; intro b8)
          refine T.storeA Wanted.none rfl rfl zq8 (by exact rfl) zq14 zq13 ?_
          refine T.opsNil ?_
          refine T.seq ?_
          refine T.region ?_
          refine T.pv (PV.fieldAddr rfl) Wanted.none rfl rfl ?_
          refine T.pv (PV.load1 rfl zq0 rfl) Wanted.none rfl rfl ?_
          refine T.pv (PV.move rfl) Wanted.none rfl rfl ?_
          refine T.pv (PV.seql rfl rfl) Wanted.none rfl rfl ?_
          refine T.pv (PV.move rfl) Wanted.none rfl rfl ?_
          refine T.pv (PV.fieldAddr rfl) (Wanted.guard rfl rfl (by assumption)) rfl rfl ?_
          refine T.pv (PV.load1 rfl zq0 rfl) (Wanted.guard rfl rfl (by assumption)) rfl rfl ?_
          refine T.pv (PV.fieldAddr rfl) (Wanted.guard rfl rfl (by assumption)) rfl rfl ?_
          refine T.pv (PV.load1 rfl zq0 rfl) (Wanted.guard rfl rfl (by assumption)) rfl rfl ?_
          refine T.pv (PV.leq rfl rfl) (Wanted.guard rfl rfl (by assumption)) rfl rfl ?_
          refine T.pv (PV.pickT rfl (by assumption) rfl) Wanted.none rfl rfl ?_
          refine T.pv (PV.move rfl) Wanted.none rfl rfl ?_
          refine T.setT (d := 33) rfl (by omega) ?_
          refine T.pv (PV.fieldAddr rfl) (Wanted.guard rfl rfl rfl) rfl rfl ?_
          refine T.pv (PV.load1 rfl zq0 rfl) (Wanted.guard rfl rfl rfl) rfl rfl ?_
          refine T.pv (PV.fieldAddr rfl) (Wanted.guard rfl rfl rfl) rfl rfl ?_
          refine T.pv (PV.load1 rfl zq0 rfl) (Wanted.guard rfl rfl rfl) rfl rfl ?_
          refine T.pv (PV.leq rfl rfl) (Wanted.guard rfl rfl rfl) rfl rfl ?_
          refine T.pv (PV.pickT rfl rfl rfl) Wanted.none rfl rfl ?_
          refine T.opsNil ?_
          refine T.condT rfl (decide_eq_true (by omega)) ?_
          refine T.seq ?_
          refine T.region ?_
          refine T.pv (PV.move rfl) Wanted.none rfl rfl ?_
          refine T.pv (PV.assign rfl) Wanted.none rfl rfl ?_
          refine T.opsNil ?_
          exact T.retF (Lv.fin (RV.tmp rfl rfl) (by rw [← hk2]))
        · rw [if_neg (by simp [h2])] at hk2
          refine T.seq ?_
          refine T.seq ?_
          refine T.region ?_
          refine T.pv (PV.move rfl) Wanted.none rfl rfl ?_
          refine T.pv (PV.geq rfl rfl) Wanted.none rfl rfl ?_
          refine T.opsNil ?_
          refine T.condT rfl rfl ?_
          refine T.skip ?_
          refine T.seq ?_
          refine T.block ?_
          refine T.seq ?_
          refine T.region ?_
          refine T.pv (PV.fieldAddr rfl) Wanted.none rfl rfl ?_
          refine T.pv (PV.load1 rfl zq0 rfl) Wanted.none rfl rfl ?_
          refine T.pv (PV.move rfl) Wanted.none rfl rfl ?_
          refine T.pv (PV.indexAddr rfl rfl (by omega)) Wanted.none rfl rfl ?_
          refine T.pv (PV.loadSubAll rfl (by assumption) (by exact rfl)) Wanted.none rfl rfl ?_
          (refine T.alloc Wanted.none rfl ?_; intro b8)
          refine T.storeA Wanted.none rfl rfl zq8 (by exact rfl) zq14 zq13 ?_
          refine T.opsNil ?_
          refine T.seq ?_
          refine T.region ?_
          refine T.pv (PV.fieldAddr rfl) Wanted.none rfl rfl ?_
          refine T.pv (PV.load1 rfl zq0 rfl) Wanted.none rfl rfl ?_
          refine T.pv (PV.move rfl) Wanted.none rfl rfl ?_
          refine T.pv (PV.seql rfl rfl) Wanted.none rfl rfl ?_
          refine T.pv (PV.move rfl) Wanted.none rfl rfl ?_
          refine T.pv (PV.fieldAddr rfl) (Wanted.guard rfl rfl (by assumption)) rfl rfl ?_
          refine T.pv (PV.load1 rfl zq0 rfl) (Wanted.guard rfl rfl (by assumption)) rfl rfl ?_
          refine T.pv (PV.fieldAddr rfl) (Wanted.guard rfl rfl (by assumption)) rfl rfl ?_
          refine T.pv (PV.load1 rfl zq0 rfl) (Wanted.guard rfl rfl (by assumption)) rfl rfl ?_
          refine T.pv (PV.leq rfl rfl) (Wanted.guard rfl rfl (by assumption)) rfl rfl ?_
          refine T.pv (PV.pickT rfl (by assumption) rfl) Wanted.none rfl rfl ?_
          refine T.pv (PV.move rfl) Wanted.none rfl rfl ?_
          refine T.setT (d := 33) rfl (by omega) ?_
          refine T.pv (PV.fieldAddr rfl) (Wanted.guard rfl rfl rfl) rfl rfl ?_
          refine T.pv (PV.load1 rfl zq0 rfl) (Wanted.guard rfl rfl rfl) rfl rfl ?_
          refine T.pv (PV.fieldAddr rfl) (Wanted.guard rfl rfl rfl) rfl rfl ?_
          refine T.pv (PV.load1 rfl zq0 rfl) (Wanted.guard rfl rfl rfl) rfl rfl ?_
          refine T.pv (PV.leq rfl rfl) (Wanted.guard rfl rfl rfl) rfl rfl ?_
          refine T.pv (PV.pickT rfl rfl rfl) Wanted.none rfl rfl ?_
          refine T.opsNil ?_
          refine T.condF rfl (decide_eq_false (by omega)) ?_
          refine T.skip ?_
          refine T.blkEnd ?_
          refine T.region ?_
          refine T.pv (PV.move rfl) Wanted.none rfl rfl ?_
          refine T.pv (PV.sub rfl rfl (by omega)) Wanted.none rfl rfl ?_
          refine T.pv (PV.assign rfl) Wanted.none rfl rfl ?_
          refine T.opsNil ?_
          exact T.nextP k ⟨by omega, hk2⟩ (by omega) zq8 (by repeat (first | exact Sel.refl _ | exact Sel.nil | (refine Sel.cons zq1 ?_) | (refine Sel.app zq1 ?_) | exact Sel.one zq1)) rfl
      · rw [if_neg (by simp [h1])] at hk2
        refine T.seq ?_
        refine T.seq ?_
        refine T.region ?_
        refine T.pv (PV.move rfl) Wanted.none rfl rfl ?_
        refine T.pv (PV.geq rfl rfl) Wanted.none rfl rfl ?_
        refine T.opsNil ?_
        refine T.condT rfl rfl ?_
        refine T.skip ?_
        refine T.seq ?_
        refine T.block ?_
        refine T.seq ?_
        refine T.region ?_
        refine T.pv (PV.fieldAddr rfl) Wanted.none rfl rfl ?_
        refine T.pv (PV.load1 rfl zq0 rfl) Wanted.none rfl rfl ?_
        refine T.pv (PV.move rfl) Wanted.none rfl rfl ?_
        refine T.pv (PV.indexAddr rfl rfl (by omega)) Wanted.none rfl rfl ?_
        refine T.pv (PV.loadSubAll rfl (by assumption) (by exact rfl)) Wanted.none rfl rfl ?_
        (refine T.alloc Wanted.none rfl ?_; intro b8)
        refine T.storeA Wanted.none rfl rfl zq8 (by exact rfl) zq14 zq13 ?_
        refine T.opsNil ?_
        refine T.seq ?_
        refine T.region ?_
        refine T.pv (PV.fieldAddr rfl) Wanted.none rfl rfl ?_
        refine T.pv (PV.load1 rfl zq0 rfl) Wanted.none rfl rfl ?_
        refine T.pv (PV.move rfl) Wanted.none rfl rfl ?_
        refine T.pv (PV.seql rfl rfl) Wanted.none rfl rfl ?_
        refine T.pv (PV.move rfl) Wanted.none rfl rfl ?_
        refine T.pv (PV.fieldAddr rfl) (Wanted.guard rfl rfl (by assumption)) rfl rfl ?_
        refine T.pv (PV.load1 rfl zq0 rfl) (Wanted.guard rfl rfl (by assumption)) rfl rfl ?_
        refine T.pv (PV.fieldAddr rfl) (Wanted.guard rfl rfl (by assumption)) rfl rfl ?_
        refine T.pv (PV.load1 rfl zq0 rfl) (Wanted.guard rfl rfl (by assumption)) rfl rfl ?_
        refine T.pv (PV.leq rfl rfl) (Wanted.guard rfl rfl (by assumption)) rfl rfl ?_
        refine T.pv (PV.pickT rfl (by assumption) rfl) Wanted.none rfl rfl ?_
        refine T.pv (PV.move rfl) Wanted.none rfl rfl ?_
        refine T.setF (d := 33) rfl (by omega) ?_
        refine T.pass (Unwanted.guard rfl rfl rfl) rfl rfl ?_
        refine T.pass (Unwanted.guard rfl rfl rfl) rfl rfl ?_
        refine T.pass (Unwanted.guard rfl rfl rfl) rfl rfl ?_
        refine T.pass (Unwanted.guard rfl rfl rfl) rfl rfl ?_
        refine T.pass (Unwanted.guard rfl rfl rfl) rfl rfl ?_
        refine T.pv (PV.pickF rfl rfl rfl) Wanted.none rfl rfl ?_
        refine T.opsNil ?_
        refine T.condF rfl rfl ?_
        refine T.skip ?_
        refine T.blkEnd ?_
        refine T.region ?_
        refine T.pv (PV.move rfl) Wanted.none rfl rfl ?_
        refine T.pv (PV.sub rfl rfl (by omega)) Wanted.none rfl rfl ?_
        refine T.pv (PV.assign rfl) Wanted.none rfl rfl ?_
        refine T.opsNil ?_
        exact T.nextP k ⟨by omega, hk2⟩ (by omega) zq8 (by repeat (first | exact Sel.refl _ | exact Sel.nil | (refine Sel.cons zq1 ?_) | (refine Sel.app zq1 ?_) | exact Sel.one zq1)) rfl
    · have hd := decide_eq_false h0
      rw [if_neg (by simp [h0])] at hk2
      refine T.seq ?_
      refine T.seq ?_
      refine T.region ?_
      refine T.pv (PV.move rfl) Wanted.none rfl rfl ?_
      refine T.pv (PV.geq rfl rfl) Wanted.none rfl rfl ?_
      refine T.opsNil ?_
      refine T.condT rfl rfl ?_
      refine T.skip ?_
      refine T.seq ?_
      refine T.block ?_
      refine T.seq ?_
      refine T.region ?_
      refine T.pv (PV.fieldAddr rfl) Wanted.none rfl rfl ?_
      refine T.pv (PV.load1 rfl zq0 rfl) Wanted.none rfl rfl ?_
      refine T.pv (PV.move rfl) Wanted.none rfl rfl ?_
      refine T.pv (PV.indexAddr rfl rfl (by omega)) Wanted.none rfl rfl ?_
      refine T.pv (PV.loadSubAll rfl (by assumption) (by exact rfl)) Wanted.none rfl rfl ?_
      (refine T.alloc Wanted.none rfl ?_; intro b8)
      refine T.storeA Wanted.none rfl rfl zq8 (by exact rfl) zq14 zq13 ?_
      refine T.opsNil ?_
      refine T.seq ?_
      refine T.region ?_
      refine T.pv (PV.fieldAddr rfl) Wanted.none rfl rfl ?_
      refine T.pv (PV.load1 rfl zq0 rfl) Wanted.none rfl rfl ?_
      refine T.pv (PV.move rfl) Wanted.none rfl rfl ?_
      refine T.pv (PV.seql rfl rfl) Wanted.none rfl rfl ?_
      refine T.pv (PV.move rfl) Wanted.none rfl rfl ?_
      refine T.pass (Unwanted.guard rfl rfl (by assumption)) rfl rfl ?_
      refine T.pass (Unwanted.guard rfl rfl (by assumption)) rfl rfl ?_
      refine T.pass (Unwanted.guard rfl rfl (by assumption)) rfl rfl ?_
      refine T.pass (Unwanted.guard rfl rfl (by assumption)) rfl rfl ?_
      refine T.pass (Unwanted.guard rfl rfl (by assumption)) rfl rfl ?_
      refine T.pv (PV.pickF rfl (by assumption) rfl) Wanted.none rfl rfl ?_
      refine T.pv (PV.move rfl) Wanted.none rfl rfl ?_
      refine T.pass (Unwanted.guard rfl rfl rfl) rfl rfl ?_
      refine T.pass (Unwanted.guard rfl rfl rfl) rfl rfl ?_
      refine T.pass (Unwanted.guard rfl rfl rfl) rfl rfl ?_
      refine T.pass (Unwanted.guard rfl rfl rfl) rfl rfl ?_
      refine T.pass (Unwanted.guard rfl rfl rfl) rfl rfl ?_
      refine T.pv (PV.pickF rfl rfl rfl) Wanted.none rfl rfl ?_
      refine T.opsNil ?_
      refine T.condF rfl rfl ?_
      refine T.skip ?_
      refine T.blkEnd ?_
      refine T.region ?_
      refine T.pv (PV.move rfl) Wanted.none rfl rfl ?_
      refine T.pv (PV.sub rfl rfl (by omega)) Wanted.none rfl rfl ?_
      refine T.pv (PV.assign rfl) Wanted.none rfl rfl ?_
      refine T.opsNil ?_
      exact T.nextP k ⟨by omega, hk2⟩ (by omega) zq8 (by repeat (first | exact Sel.refl _ | exact Sel.nil | (refine Sel.cons zq1 ?_) | (refine Sel.app zq1 ?_) | exact Sel.one zq1)) rfl
set_option maxHeartbeats 2000000 in
theorem holds_ref (c : Cp) (f : Fl) (s : Sp) (H : Hp) (hc : CpL H c) : Fn Try.prog 14 #[cpV c, flV f, spV s] H (fun u _ => u = .bool (holdsB c f s)) := by
  have hve := fun (H' : Hp) v (h : FlL H' v [f]) => validate_ref [f] v H' h (by simp)
  have hfe : flsErr [f] = flErr f := by
    unfold flsErr flsErr; split
    · rfl
    · omega
  obtain ⟨aa, ca, at1, ct, ax, cx, ar, cr, an, cn, ah, ch, as1, cs, hcv, ha, ht, hx, hr, hn, hh, hs⟩ := hc.open; rw [hcv]; have hla := hc.la; have hlt := hc.lt; have hlx := hc.lx; have hlr := hc.lr; have hln := hc.ln; have hlh := hc.lh; have hls := hc.ls
  unfold holdsB flV spV
  refine Fn.of_T (vs := [.agg #[.slice aa c.att.length ca, .slice at1 c.tk.length ct, .slice ax c.tx.length cx, .slice ar c.rg.length cr, .slice an c.nd.length cn, .slice ah c.hd.length ch, .slice as1 c.rl.length cs], .agg #[.int .i64 f.op, .bool f.nt, .string f.rg], .agg #[.int .i64 s.1, .int .i64 s.2]]) Try.func14 rfl rfl fun w => ?_
  refine T.seq ?_
  refine T.region ?_
  (refine T.box Wanted.none rfl rfl zq15 ?_; intro b3)
  (refine T.box Wanted.none rfl rfl zq15 ?_; intro b4)
  (refine T.box Wanted.none rfl rfl zq15 ?_; intro b5)
  refine T.pv (PV.assign rfl) Wanted.none rfl rfl ?_
  refine T.opsNil ?_
  refine T.seq ?_
  refine T.seq ?_
  refine T.region ?_
  refine T.pv (PV.loadAll rfl zq0 (by exact rfl)) Wanted.none rfl rfl ?_
  (refine T.buildSlice Wanted.none rfl rfl zq11 (by exact rfl) (by exact rfl) ?_; intro b12)
  refine T.freezeB (b := b12) zq1 ?_
  intro H1 hle1 hb1
  have hv1 := hve H1 (.slice (some ⟨b12, 0, none⟩) 1 1) ⟨rfl, .inr ⟨b12, 0, 1, _, _, _, rfl, hb1, rfl, Nat.le_refl 1⟩⟩
  rw [hfe] at hv1
  have hr := RgL.mono hr hle1
  refine T.callV Wanted.none rfl rfl (hv1) ?_
  refine T.pv (PV.neq rfl rfl) Wanted.none rfl rfl ?_
  refine T.pv (PV.move rfl) Wanted.none rfl rfl ?_
  by_cases h1 : flErr f ≠ 0
  · refine T.setT (d := 15) rfl (by omega) ?_
    refine T.pass (Unwanted.guard rfl rfl rfl) rfl rfl ?_
    refine T.pass (Unwanted.guard rfl rfl rfl) rfl rfl ?_
    refine T.pass (Unwanted.guard rfl rfl rfl) rfl rfl ?_
    refine T.pv (PV.pickT rfl rfl rfl) Wanted.none rfl rfl ?_
    refine T.pv (PV.move rfl) Wanted.none rfl rfl ?_
    refine T.pass (Unwanted.guard rfl rfl rfl) rfl rfl ?_
    refine T.pass (Unwanted.guard rfl rfl rfl) rfl rfl ?_
    refine T.pass (Unwanted.guard rfl rfl rfl) rfl rfl ?_
    refine T.pass (Unwanted.guard rfl rfl rfl) rfl rfl ?_
    refine T.pass (Unwanted.guard rfl rfl rfl) rfl rfl ?_
    refine T.pv (PV.pickT rfl rfl rfl) Wanted.none rfl rfl ?_
    refine T.pv (PV.move rfl) Wanted.none rfl rfl ?_
    refine T.pass (Unwanted.guard rfl rfl rfl) rfl rfl ?_
    refine T.pass (Unwanted.guard rfl rfl rfl) rfl rfl ?_
    refine T.pass (Unwanted.guard rfl rfl rfl) rfl rfl ?_
    refine T.pass (Unwanted.guard rfl rfl rfl) rfl rfl ?_
    refine T.pass (Unwanted.guard rfl rfl rfl) rfl rfl ?_
    refine T.pass (Unwanted.guard rfl rfl rfl) rfl rfl ?_
    refine T.pv (PV.pickT rfl rfl rfl) Wanted.none rfl rfl ?_
    refine T.opsNil ?_
    refine T.condT rfl rfl ?_
    refine T.seq ?_
    refine T.region ?_
    refine T.pv (PV.assign rfl) Wanted.none rfl rfl ?_
    refine T.opsNil ?_
    exact T.retF (Lv.fin zq6 (by rw [if_pos (show offB c.tk.length f s from .inl h1)]))
  by_cases h2 : s.1 < 0
  · refine T.setF (d := 15) rfl (by omega) ?_
    refine T.pv (PV.fieldAddr rfl) (Wanted.guard rfl rfl rfl) rfl rfl ?_
    refine T.pv (PV.load1 rfl zq0 rfl) (Wanted.guard rfl rfl rfl) rfl rfl ?_
    refine T.pv (PV.lss rfl rfl) (Wanted.guard rfl rfl rfl) rfl rfl ?_
    refine T.pv (PV.pickF rfl rfl rfl) Wanted.none rfl rfl ?_
    refine T.pv (PV.move rfl) Wanted.none rfl rfl ?_
    refine T.setT (d := 20) rfl (by omega) ?_
    refine T.pass (Unwanted.guard rfl rfl rfl) rfl rfl ?_
    refine T.pass (Unwanted.guard rfl rfl rfl) rfl rfl ?_
    refine T.pass (Unwanted.guard rfl rfl rfl) rfl rfl ?_
    refine T.pass (Unwanted.guard rfl rfl rfl) rfl rfl ?_
    refine T.pass (Unwanted.guard rfl rfl rfl) rfl rfl ?_
    refine T.pv (PV.pickT rfl rfl rfl) Wanted.none rfl rfl ?_
    refine T.pv (PV.move rfl) Wanted.none rfl rfl ?_
    refine T.pass (Unwanted.guard rfl rfl rfl) rfl rfl ?_
    refine T.pass (Unwanted.guard rfl rfl rfl) rfl rfl ?_
    refine T.pass (Unwanted.guard rfl rfl rfl) rfl rfl ?_
    refine T.pass (Unwanted.guard rfl rfl rfl) rfl rfl ?_
    refine T.pass (Unwanted.guard rfl rfl rfl) rfl rfl ?_
    refine T.pass (Unwanted.guard rfl rfl rfl) rfl rfl ?_
    refine T.pv (PV.pickT rfl rfl rfl) Wanted.none rfl rfl ?_
    refine T.opsNil ?_
    refine T.condT rfl rfl ?_
    refine T.seq ?_
    refine T.region ?_
    refine T.pv (PV.assign rfl) Wanted.none rfl rfl ?_
    refine T.opsNil ?_
    exact T.retF (Lv.fin zq6 (by rw [if_pos (show offB c.tk.length f s from .inr (.inl h2))]))
  by_cases h3 : s.2 ≤ s.1
  · refine T.setF (d := 15) rfl (by omega) ?_
    refine T.pv (PV.fieldAddr rfl) (Wanted.guard rfl rfl rfl) rfl rfl ?_
    refine T.pv (PV.load1 rfl zq0 rfl) (Wanted.guard rfl rfl rfl) rfl rfl ?_
    refine T.pv (PV.lss rfl rfl) (Wanted.guard rfl rfl rfl) rfl rfl ?_
    refine T.pv (PV.pickF rfl rfl rfl) Wanted.none rfl rfl ?_
    refine T.pv (PV.move rfl) Wanted.none rfl rfl ?_
    refine T.setF (d := 20) rfl (by omega) ?_
    refine T.pv (PV.fieldAddr rfl) (Wanted.guard rfl rfl rfl) rfl rfl ?_
    refine T.pv (PV.load1 rfl zq0 rfl) (Wanted.guard rfl rfl rfl) rfl rfl ?_
    refine T.pv (PV.fieldAddr rfl) (Wanted.guard rfl rfl rfl) rfl rfl ?_
    refine T.pv (PV.load1 rfl zq0 rfl) (Wanted.guard rfl rfl rfl) rfl rfl ?_
    refine T.pv (PV.geq rfl rfl) (Wanted.guard rfl rfl rfl) rfl rfl ?_
    refine T.pv (PV.pickF rfl rfl rfl) Wanted.none rfl rfl ?_
    refine T.pv (PV.move rfl) Wanted.none rfl rfl ?_
    refine T.setT (d := 27) rfl (by omega) ?_
    refine T.pass (Unwanted.guard rfl rfl rfl) rfl rfl ?_
    refine T.pass (Unwanted.guard rfl rfl rfl) rfl rfl ?_
    refine T.pass (Unwanted.guard rfl rfl rfl) rfl rfl ?_
    refine T.pass (Unwanted.guard rfl rfl rfl) rfl rfl ?_
    refine T.pass (Unwanted.guard rfl rfl rfl) rfl rfl ?_
    refine T.pass (Unwanted.guard rfl rfl rfl) rfl rfl ?_
    refine T.pv (PV.pickT rfl rfl rfl) Wanted.none rfl rfl ?_
    refine T.opsNil ?_
    refine T.condT rfl rfl ?_
    refine T.seq ?_
    refine T.region ?_
    refine T.pv (PV.assign rfl) Wanted.none rfl rfl ?_
    refine T.opsNil ?_
    exact T.retF (Lv.fin zq6 (by rw [if_pos (show offB c.tk.length f s from .inr (.inr (.inl h3)))]))
  by_cases h4 : (c.tk.length : Int) < s.2
  · refine T.setF (d := 15) rfl (by omega) ?_
    refine T.pv (PV.fieldAddr rfl) (Wanted.guard rfl rfl rfl) rfl rfl ?_
    refine T.pv (PV.load1 rfl zq0 rfl) (Wanted.guard rfl rfl rfl) rfl rfl ?_
    refine T.pv (PV.lss rfl rfl) (Wanted.guard rfl rfl rfl) rfl rfl ?_
    refine T.pv (PV.pickF rfl rfl rfl) Wanted.none rfl rfl ?_
    refine T.pv (PV.move rfl) Wanted.none rfl rfl ?_
    refine T.setF (d := 20) rfl (by omega) ?_
    refine T.pv (PV.fieldAddr rfl) (Wanted.guard rfl rfl rfl) rfl rfl ?_
    refine T.pv (PV.load1 rfl zq0 rfl) (Wanted.guard rfl rfl rfl) rfl rfl ?_
    refine T.pv (PV.fieldAddr rfl) (Wanted.guard rfl rfl rfl) rfl rfl ?_
    refine T.pv (PV.load1 rfl zq0 rfl) (Wanted.guard rfl rfl rfl) rfl rfl ?_
    refine T.pv (PV.geq rfl rfl) (Wanted.guard rfl rfl rfl) rfl rfl ?_
    refine T.pv (PV.pickF rfl rfl rfl) Wanted.none rfl rfl ?_
    refine T.pv (PV.move rfl) Wanted.none rfl rfl ?_
    refine T.setF (d := 27) rfl (by omega) ?_
    refine T.pv (PV.fieldAddr rfl) (Wanted.guard rfl rfl rfl) rfl rfl ?_
    refine T.pv (PV.load1 rfl zq0 rfl) (Wanted.guard rfl rfl rfl) rfl rfl ?_
    refine T.pv (PV.fieldAddr rfl) (Wanted.guard rfl rfl rfl) rfl rfl ?_
    refine T.pv (PV.load1 rfl zq0 rfl) (Wanted.guard rfl rfl rfl) rfl rfl ?_
    refine T.pv (PV.lenSl rfl) (Wanted.guard rfl rfl rfl) rfl rfl ?_
    refine T.pv (PV.gtr rfl rfl) (Wanted.guard rfl rfl rfl) rfl rfl ?_
    refine T.pv (PV.pickF rfl rfl rfl) Wanted.none rfl rfl ?_
    refine T.opsNil ?_
    refine T.condT rfl (decide_eq_true (by omega)) ?_
    refine T.seq ?_
    refine T.region ?_
    refine T.pv (PV.assign rfl) Wanted.none rfl rfl ?_
    refine T.opsNil ?_
    exact T.retF (Lv.fin zq6 (by rw [if_pos (show offB c.tk.length f s from .inr (.inr (.inr h4)))]))
  have hno : ¬ offB c.tk.length f s := by unfold offB; omega
  have hop : 1 ≤ f.op ∧ f.op ≤ 3 := by
    unfold flErr at h1
    split at h1
    · omega
    · omega
  rw [if_neg hno]
  refine T.setF (d := 15) rfl (by omega) ?_
  refine T.pv (PV.fieldAddr rfl) (Wanted.guard rfl rfl rfl) rfl rfl ?_
  refine T.pv (PV.load1 rfl zq0 rfl) (Wanted.guard rfl rfl rfl) rfl rfl ?_
  refine T.pv (PV.lss rfl rfl) (Wanted.guard rfl rfl rfl) rfl rfl ?_
  refine T.pv (PV.pickF rfl rfl rfl) Wanted.none rfl rfl ?_
  refine T.pv (PV.move rfl) Wanted.none rfl rfl ?_
  refine T.setF (d := 20) rfl (by omega) ?_
  refine T.pv (PV.fieldAddr rfl) (Wanted.guard rfl rfl rfl) rfl rfl ?_
  refine T.pv (PV.load1 rfl zq0 rfl) (Wanted.guard rfl rfl rfl) rfl rfl ?_
  refine T.pv (PV.fieldAddr rfl) (Wanted.guard rfl rfl rfl) rfl rfl ?_
  refine T.pv (PV.load1 rfl zq0 rfl) (Wanted.guard rfl rfl rfl) rfl rfl ?_
  refine T.pv (PV.geq rfl rfl) (Wanted.guard rfl rfl rfl) rfl rfl ?_
  refine T.pv (PV.pickF rfl rfl rfl) Wanted.none rfl rfl ?_
  refine T.pv (PV.move rfl) Wanted.none rfl rfl ?_
  refine T.setF (d := 27) rfl (by omega) ?_
  refine T.pv (PV.fieldAddr rfl) (Wanted.guard rfl rfl rfl) rfl rfl ?_
  refine T.pv (PV.load1 rfl zq0 rfl) (Wanted.guard rfl rfl rfl) rfl rfl ?_
  refine T.pv (PV.fieldAddr rfl) (Wanted.guard rfl rfl rfl) rfl rfl ?_
  refine T.pv (PV.load1 rfl zq0 rfl) (Wanted.guard rfl rfl rfl) rfl rfl ?_
  refine T.pv (PV.lenSl rfl) (Wanted.guard rfl rfl rfl) rfl rfl ?_
  refine T.pv (PV.gtr rfl rfl) (Wanted.guard rfl rfl rfl) rfl rfl ?_
  refine T.pv (PV.pickF rfl rfl rfl) Wanted.none rfl rfl ?_
  refine T.opsNil ?_
  refine T.condF rfl (decide_eq_false (by omega)) ?_
  refine T.skip ?_
  refine T.seq ?_
  refine T.region ?_
  refine T.pv (PV.assign rfl) Wanted.none rfl rfl ?_
  refine T.opsNil ?_
  refine T.seq ?_
  refine T.seq ?_
  refine T.region ?_
  refine T.pv (PV.fieldAddr rfl) Wanted.none rfl rfl ?_
  refine T.pv (PV.load1 rfl zq0 rfl) Wanted.none rfl rfl ?_
  refine T.pv (PV.lenSl rfl) Wanted.none rfl rfl ?_
  refine T.pv (PV.move rfl) Wanted.none rfl rfl ?_
  refine T.opsNil ?_
  refine T.block ?_
  refine T.loopK [(37, Value.int IntKind.i64 (↑c.rg.length : Int)), (36, Value.slice ar c.rg.length cr), (5, Value.pointer (some { block := b5, off := 0 })), (4, Value.pointer (some { block := b4, off := 0 }))] zq8 (γ := Nat × Bool) (fun g => g.1 ≤ c.rg.length ∧ g.2 = someB (c.rg.take g.1) f s) (fun g => [(38, .int .i64 (g.1 : Int)), (7, .bool g.2)]) (fun _ => _) (fun _ => H1) (fun g => c.rg.length - g.1) (0, false) ⟨by simp, rfl⟩ zq8 (Sel.refl _) rfl ?_
  rintro ⟨i, q⟩ ⟨g1, g2⟩
  dsimp only at g1 g2 ⊢
  by_cases hi : i < c.rg.length
  · obtain ⟨bx, off, x, rfl, hix, hsub⟩ := RowL.get encRg_len hr.1 hi
    unfold encRg at hsub
    obtain ⟨am, cm, hmv⟩ := (hr.2 x (List.mem_of_getElem? hix)).1.len
    rw [hmv] at hsub
    have hst : someB (c.rg.take (i + 1)) f s = (someB (c.rg.take i) f s || (decide (x.ty = f.rg) && relB f.op x s)) := by
      unfold someB; rw [List.take_add_one, hix, List.any_append]; simp
    rw [← g2] at hst
    have hco := contains_fn (x.b, x.e) s H1
    have hco2 := contains_fn s (x.b, x.e) H1
    unfold spV at hco hco2
    dsimp only at hco hco2
    refine T.seq ?_
    refine T.region ?_
    refine T.pv (PV.lss rfl rfl) Wanted.none rfl rfl ?_
    refine T.opsNil ?_
    refine T.seq ?_
    refine T.condT rfl (decide_eq_true (by omega)) ?_
    refine T.skip ?_
    refine T.seq ?_
    refine T.block ?_
    refine T.seq ?_
    refine T.region ?_
    refine T.pv (PV.indexAddr rfl rfl (by omega)) Wanted.none rfl rfl ?_
    refine T.pv (PV.loadSubAll rfl (by assumption) (by exact rfl)) Wanted.none rfl rfl ?_
    (refine T.alloc Wanted.none rfl ?_; intro b9)
    refine T.storeA Wanted.none rfl rfl zq8 (by exact rfl) zq14 zq13 ?_
    refine T.opsNil ?_
    refine T.seq ?_
    refine T.region ?_
    refine T.pv (PV.fieldAddr rfl) Wanted.none rfl rfl ?_
    refine T.pv (PV.load1 rfl zq0 rfl) Wanted.none rfl rfl ?_
    refine T.pv (PV.fieldAddr rfl) Wanted.none rfl rfl ?_
    refine T.pv (PV.load1 rfl zq0 rfl) Wanted.none rfl rfl ?_
    refine T.pv (PV.build rfl zq12) Wanted.none rfl rfl ?_
    (refine T.alloc Wanted.none rfl ?_; intro b10)
    refine T.storeA Wanted.none rfl rfl zq8 (by exact rfl) zq14 zq13 ?_
    refine T.opsNil ?_
    (repeat refine T.seq ?_)
    refine T.cutG2 [(38, Value.int IntKind.i64 (↑i : Int)), (7, Value.bool q), (37, Value.int IntKind.i64 (↑c.rg.length : Int)), (36, Value.slice (some { block := bx, off := off }) c.rg.length cr), (5, Value.pointer (some { block := b5, off := 0 })), (4, Value.pointer (some { block := b4, off := 0 }))] (γ := Bool) (fun q' => q' = (decide (x.ty = f.rg) && relB f.op x s)) (fun q' => [(90, .bool q')]) ?_ fun K => ?_
    rotate_left
    · by_cases h0 : x.ty = f.rg
      · have hd := decide_eq_true h0
        rw [hd, Bool.true_and] at K
        unfold relB at K
        by_cases ho1 : f.op = 1
        · rw [if_pos ho1] at K
          by_cases hcc : x.b ≤ s.1 ∧ s.2 ≤ x.e
          · rw [decide_eq_true hcc] at hco
            refine T.region ?_
            refine T.pv (PV.fieldAddr rfl) Wanted.none rfl rfl ?_
            refine T.pv (PV.load1 rfl zq0 rfl) Wanted.none rfl rfl ?_
            refine T.pv (PV.fieldAddr rfl) Wanted.none rfl rfl ?_
            refine T.pv (PV.load1 rfl zq0 rfl) Wanted.none rfl rfl ?_
            refine T.pv (PV.seql rfl rfl) Wanted.none rfl rfl ?_
            refine T.pv (PV.move rfl) Wanted.none rfl rfl ?_
            refine T.pv (PV.fieldAddr rfl) (Wanted.guard rfl rfl (by assumption)) rfl rfl ?_
            refine T.pv (PV.load1 rfl zq0 rfl) (Wanted.guard rfl rfl (by assumption)) rfl rfl ?_
            refine T.pv (PV.eql rfl rfl) (Wanted.guard rfl rfl (by assumption)) rfl rfl ?_
            refine T.pv (PV.move rfl) (Wanted.guard rfl rfl (by assumption)) rfl rfl ?_
            refine T.setT (d := 56) rfl (by omega) ?_
            refine T.pv (PV.loadAll rfl zq0 (by exact rfl)) (Wanted.guard rfl rfl rfl) rfl rfl ?_
            refine T.pv (PV.loadAll rfl zq0 (by exact rfl)) (Wanted.guard rfl rfl rfl) rfl rfl ?_
            refine T.callV (Wanted.guard rfl rfl rfl) rfl rfl (hco) ?_
            refine T.pv (PV.pickT rfl rfl rfl) (Wanted.guard rfl rfl (by assumption)) rfl rfl ?_
            refine T.pv (PV.move rfl) (Wanted.guard rfl rfl (by assumption)) rfl rfl ?_
            refine T.pass (Unwanted.guard rfl rfl rfl) rfl rfl ?_
            refine T.pass (Unwanted.guard rfl rfl rfl) rfl rfl ?_
            refine T.pass (Unwanted.guard rfl rfl rfl) rfl rfl ?_
            refine T.pass (Unwanted.guard rfl rfl rfl) rfl rfl ?_
            refine T.pass (Unwanted.undef rfl rfl) rfl rfl ?_
            refine T.pass (Unwanted.undef rfl rfl) rfl rfl ?_
            refine T.pass (Unwanted.undef rfl rfl) rfl rfl ?_
            refine T.pass (Unwanted.guard rfl rfl rfl) rfl rfl ?_
            refine T.pv (PV.pickT rfl rfl rfl) (Wanted.guard rfl rfl (by assumption)) rfl rfl ?_
            refine T.pv (PV.move rfl) (Wanted.guard rfl rfl (by assumption)) rfl rfl ?_
            refine T.pass (Unwanted.guard rfl rfl rfl) rfl rfl ?_
            refine T.pass (Unwanted.guard rfl rfl rfl) rfl rfl ?_
            refine T.pass (Unwanted.guard rfl rfl rfl) rfl rfl ?_
            refine T.pass (Unwanted.guard rfl rfl rfl) rfl rfl ?_
            refine T.pass (Unwanted.undef rfl rfl) rfl rfl ?_
            refine T.pass (Unwanted.undef rfl rfl) rfl rfl ?_
            refine T.pass (Unwanted.undef rfl rfl) rfl rfl ?_
            refine T.pass (Unwanted.undef rfl rfl) rfl rfl ?_
            refine T.pass (Unwanted.undef rfl rfl) rfl rfl ?_
            refine T.pass (Unwanted.guard rfl rfl rfl) rfl rfl ?_
            refine T.pass (Unwanted.guard rfl rfl rfl) rfl rfl ?_
            refine T.pass (Unwanted.undef rfl rfl) rfl rfl ?_
            refine T.pass (Unwanted.undef rfl rfl) rfl rfl ?_
            refine T.pass (Unwanted.undef rfl rfl) rfl rfl ?_
            refine T.pass (Unwanted.undef rfl rfl) rfl rfl ?_
            refine T.pass (Unwanted.undef rfl rfl) rfl rfl ?_
            refine T.pass (Unwanted.guard rfl rfl rfl) rfl rfl ?_
            refine T.pv (PV.pickT rfl rfl rfl) (Wanted.guard rfl rfl (by assumption)) rfl rfl ?_
            refine T.pv (PV.pickT rfl (by assumption) rfl) Wanted.none rfl rfl ?_
            refine T.opsNil ?_
            (exact K _ _ _ zq8 (Sel.refl _) (by simp [hcc]))
          · rw [decide_eq_false hcc] at hco
            refine T.region ?_
            refine T.pv (PV.fieldAddr rfl) Wanted.none rfl rfl ?_
            refine T.pv (PV.load1 rfl zq0 rfl) Wanted.none rfl rfl ?_
            refine T.pv (PV.fieldAddr rfl) Wanted.none rfl rfl ?_
            refine T.pv (PV.load1 rfl zq0 rfl) Wanted.none rfl rfl ?_
            refine T.pv (PV.seql rfl rfl) Wanted.none rfl rfl ?_
            refine T.pv (PV.move rfl) Wanted.none rfl rfl ?_
            refine T.pv (PV.fieldAddr rfl) (Wanted.guard rfl rfl (by assumption)) rfl rfl ?_
            refine T.pv (PV.load1 rfl zq0 rfl) (Wanted.guard rfl rfl (by assumption)) rfl rfl ?_
            refine T.pv (PV.eql rfl rfl) (Wanted.guard rfl rfl (by assumption)) rfl rfl ?_
            refine T.pv (PV.move rfl) (Wanted.guard rfl rfl (by assumption)) rfl rfl ?_
            refine T.setT (d := 56) rfl (by omega) ?_
            refine T.pv (PV.loadAll rfl zq0 (by exact rfl)) (Wanted.guard rfl rfl rfl) rfl rfl ?_
            refine T.pv (PV.loadAll rfl zq0 (by exact rfl)) (Wanted.guard rfl rfl rfl) rfl rfl ?_
            refine T.callV (Wanted.guard rfl rfl rfl) rfl rfl (hco) ?_
            refine T.pv (PV.pickT rfl rfl rfl) (Wanted.guard rfl rfl (by assumption)) rfl rfl ?_
            refine T.pv (PV.move rfl) (Wanted.guard rfl rfl (by assumption)) rfl rfl ?_
            refine T.pv (PV.fieldAddr rfl) (Wanted.guard rfl rfl rfl) rfl rfl ?_
            refine T.pv (PV.load1 rfl zq0 rfl) (Wanted.guard rfl rfl rfl) rfl rfl ?_
            refine T.pv (PV.eql rfl rfl) (Wanted.guard rfl rfl rfl) rfl rfl ?_
            refine T.pv (PV.move rfl) (Wanted.guard rfl rfl rfl) rfl rfl ?_
            refine T.setF (d := 65) rfl (by omega) ?_
            refine T.pass (Unwanted.guard rfl rfl rfl) rfl rfl ?_
            refine T.pass (Unwanted.guard rfl rfl rfl) rfl rfl ?_
            refine T.pass (Unwanted.guard rfl rfl rfl) rfl rfl ?_
            refine T.pv (PV.pickF rfl rfl rfl) (Wanted.guard rfl rfl rfl) rfl rfl ?_
            refine T.pv (PV.pickF rfl rfl rfl) (Wanted.guard rfl rfl (by assumption)) rfl rfl ?_
            refine T.pv (PV.move rfl) (Wanted.guard rfl rfl (by assumption)) rfl rfl ?_
            refine T.pv (PV.fieldAddr rfl) (Wanted.guard rfl rfl rfl) rfl rfl ?_
            refine T.pv (PV.load1 rfl zq0 rfl) (Wanted.guard rfl rfl rfl) rfl rfl ?_
            refine T.pv (PV.eql rfl rfl) (Wanted.guard rfl rfl rfl) rfl rfl ?_
            refine T.pv (PV.move rfl) (Wanted.guard rfl rfl rfl) rfl rfl ?_
            refine T.setF (d := 75) rfl (by omega) ?_
            refine T.pass (Unwanted.guard rfl rfl rfl) rfl rfl ?_
            refine T.pass (Unwanted.guard rfl rfl rfl) rfl rfl ?_
            refine T.pass (Unwanted.guard rfl rfl rfl) rfl rfl ?_
            refine T.pass (Unwanted.guard rfl rfl rfl) rfl rfl ?_
            refine T.pass (Unwanted.guard rfl rfl rfl) rfl rfl ?_
            refine T.pv (PV.pickF rfl rfl rfl) (Wanted.guard rfl rfl rfl) rfl rfl ?_
            refine T.pv (PV.move rfl) (Wanted.guard rfl rfl rfl) rfl rfl ?_
            refine T.pass (Unwanted.guard rfl rfl rfl) rfl rfl ?_
            refine T.pass (Unwanted.guard rfl rfl rfl) rfl rfl ?_
            refine T.pass (Unwanted.guard rfl rfl rfl) rfl rfl ?_
            refine T.pass (Unwanted.guard rfl rfl rfl) rfl rfl ?_
            refine T.pass (Unwanted.guard rfl rfl rfl) rfl rfl ?_
            refine T.pv (PV.pickF rfl rfl rfl) (Wanted.guard rfl rfl rfl) rfl rfl ?_
            refine T.pv (PV.pickF rfl rfl rfl) (Wanted.guard rfl rfl (by assumption)) rfl rfl ?_
            refine T.pv (PV.pickT rfl (by assumption) rfl) Wanted.none rfl rfl ?_
            refine T.opsNil ?_
            (exact K _ _ _ zq8 (Sel.refl _) (by simp; omega))
        rw [if_neg ho1] at K
        by_cases ho2 : f.op = 2
        · rw [if_pos ho2] at K
          by_cases hcc : s.1 ≤ x.b ∧ x.e ≤ s.2
          · rw [decide_eq_true hcc] at hco2
            refine T.region ?_
            refine T.pv (PV.fieldAddr rfl) Wanted.none rfl rfl ?_
            refine T.pv (PV.load1 rfl zq0 rfl) Wanted.none rfl rfl ?_
            refine T.pv (PV.fieldAddr rfl) Wanted.none rfl rfl ?_
            refine T.pv (PV.load1 rfl zq0 rfl) Wanted.none rfl rfl ?_
            refine T.pv (PV.seql rfl rfl) Wanted.none rfl rfl ?_
            refine T.pv (PV.move rfl) Wanted.none rfl rfl ?_
            refine T.pv (PV.fieldAddr rfl) (Wanted.guard rfl rfl (by assumption)) rfl rfl ?_
            refine T.pv (PV.load1 rfl zq0 rfl) (Wanted.guard rfl rfl (by assumption)) rfl rfl ?_
            refine T.pv (PV.eql rfl rfl) (Wanted.guard rfl rfl (by assumption)) rfl rfl ?_
            refine T.pv (PV.move rfl) (Wanted.guard rfl rfl (by assumption)) rfl rfl ?_
            refine T.setF (d := 56) rfl (by omega) ?_
            refine T.pass (Unwanted.guard rfl rfl rfl) rfl rfl ?_
            refine T.pass (Unwanted.guard rfl rfl rfl) rfl rfl ?_
            refine T.pass (Unwanted.guard rfl rfl rfl) rfl rfl ?_
            refine T.pv (PV.pickF rfl rfl rfl) (Wanted.guard rfl rfl (by assumption)) rfl rfl ?_
            refine T.pv (PV.move rfl) (Wanted.guard rfl rfl (by assumption)) rfl rfl ?_
            refine T.pv (PV.fieldAddr rfl) (Wanted.guard rfl rfl rfl) rfl rfl ?_
            refine T.pv (PV.load1 rfl zq0 rfl) (Wanted.guard rfl rfl rfl) rfl rfl ?_
            refine T.pv (PV.eql rfl rfl) (Wanted.guard rfl rfl rfl) rfl rfl ?_
            refine T.pv (PV.move rfl) (Wanted.guard rfl rfl rfl) rfl rfl ?_
            refine T.setT (d := 65) rfl (by omega) ?_
            refine T.pv (PV.loadAll rfl zq0 (by exact rfl)) (Wanted.guard rfl rfl rfl) rfl rfl ?_
            refine T.pv (PV.loadAll rfl zq0 (by exact rfl)) (Wanted.guard rfl rfl rfl) rfl rfl ?_
            refine T.callV (Wanted.guard rfl rfl rfl) rfl rfl (hco2) ?_
            refine T.pv (PV.pickT rfl rfl rfl) (Wanted.guard rfl rfl rfl) rfl rfl ?_
            refine T.pv (PV.pickF rfl rfl rfl) (Wanted.guard rfl rfl (by assumption)) rfl rfl ?_
            refine T.pv (PV.move rfl) (Wanted.guard rfl rfl (by assumption)) rfl rfl ?_
            refine T.pass (Unwanted.guard rfl rfl rfl) rfl rfl ?_
            refine T.pass (Unwanted.guard rfl rfl rfl) rfl rfl ?_
            refine T.pass (Unwanted.guard rfl rfl rfl) rfl rfl ?_
            refine T.pass (Unwanted.guard rfl rfl rfl) rfl rfl ?_
            refine T.pass (Unwanted.undef rfl rfl) rfl rfl ?_
            refine T.pass (Unwanted.undef rfl rfl) rfl rfl ?_
            refine T.pass (Unwanted.undef rfl rfl) rfl rfl ?_
            refine T.pass (Unwanted.undef rfl rfl) rfl rfl ?_
            refine T.pass (Unwanted.undef rfl rfl) rfl rfl ?_
            refine T.pass (Unwanted.guard rfl rfl rfl) rfl rfl ?_
            refine T.pass (Unwanted.guard rfl rfl rfl) rfl rfl ?_
            refine T.pass (Unwanted.undef rfl rfl) rfl rfl ?_
            refine T.pass (Unwanted.undef rfl rfl) rfl rfl ?_
            refine T.pass (Unwanted.undef rfl rfl) rfl rfl ?_
            refine T.pass (Unwanted.undef rfl rfl) rfl rfl ?_
            refine T.pass (Unwanted.undef rfl rfl) rfl rfl ?_
            refine T.pass (Unwanted.guard rfl rfl rfl) rfl rfl ?_
            refine T.pv (PV.pickT rfl rfl rfl) (Wanted.guard rfl rfl (by assumption)) rfl rfl ?_
            refine T.pv (PV.pickT rfl (by assumption) rfl) Wanted.none rfl rfl ?_
            refine T.opsNil ?_
            (exact K _ _ _ zq8 (Sel.refl _) (by simp [hcc]))
          · rw [decide_eq_false hcc] at hco2
            refine T.region ?_
            refine T.pv (PV.fieldAddr rfl) Wanted.none rfl rfl ?_
            refine T.pv (PV.load1 rfl zq0 rfl) Wanted.none rfl rfl ?_
            refine T.pv (PV.fieldAddr rfl) Wanted.none rfl rfl ?_
            refine T.pv (PV.load1 rfl zq0 rfl) Wanted.none rfl rfl ?_
            refine T.pv (PV.seql rfl rfl) Wanted.none rfl rfl ?_
            refine T.pv (PV.move rfl) Wanted.none rfl rfl ?_
            refine T.pv (PV.fieldAddr rfl) (Wanted.guard rfl rfl (by assumption)) rfl rfl ?_
            refine T.pv (PV.load1 rfl zq0 rfl) (Wanted.guard rfl rfl (by assumption)) rfl rfl ?_
            refine T.pv (PV.eql rfl rfl) (Wanted.guard rfl rfl (by assumption)) rfl rfl ?_
            refine T.pv (PV.move rfl) (Wanted.guard rfl rfl (by assumption)) rfl rfl ?_
            refine T.setF (d := 56) rfl (by omega) ?_
            refine T.pass (Unwanted.guard rfl rfl rfl) rfl rfl ?_
            refine T.pass (Unwanted.guard rfl rfl rfl) rfl rfl ?_
            refine T.pass (Unwanted.guard rfl rfl rfl) rfl rfl ?_
            refine T.pv (PV.pickF rfl rfl rfl) (Wanted.guard rfl rfl (by assumption)) rfl rfl ?_
            refine T.pv (PV.move rfl) (Wanted.guard rfl rfl (by assumption)) rfl rfl ?_
            refine T.pv (PV.fieldAddr rfl) (Wanted.guard rfl rfl rfl) rfl rfl ?_
            refine T.pv (PV.load1 rfl zq0 rfl) (Wanted.guard rfl rfl rfl) rfl rfl ?_
            refine T.pv (PV.eql rfl rfl) (Wanted.guard rfl rfl rfl) rfl rfl ?_
            refine T.pv (PV.move rfl) (Wanted.guard rfl rfl rfl) rfl rfl ?_
            refine T.setT (d := 65) rfl (by omega) ?_
            refine T.pv (PV.loadAll rfl zq0 (by exact rfl)) (Wanted.guard rfl rfl rfl) rfl rfl ?_
            refine T.pv (PV.loadAll rfl zq0 (by exact rfl)) (Wanted.guard rfl rfl rfl) rfl rfl ?_
            refine T.callV (Wanted.guard rfl rfl rfl) rfl rfl (hco2) ?_
            refine T.pv (PV.pickT rfl rfl rfl) (Wanted.guard rfl rfl rfl) rfl rfl ?_
            refine T.pv (PV.pickF rfl rfl rfl) (Wanted.guard rfl rfl (by assumption)) rfl rfl ?_
            refine T.pv (PV.move rfl) (Wanted.guard rfl rfl (by assumption)) rfl rfl ?_
            refine T.pv (PV.fieldAddr rfl) (Wanted.guard rfl rfl rfl) rfl rfl ?_
            refine T.pv (PV.load1 rfl zq0 rfl) (Wanted.guard rfl rfl rfl) rfl rfl ?_
            refine T.pv (PV.eql rfl rfl) (Wanted.guard rfl rfl rfl) rfl rfl ?_
            refine T.pv (PV.move rfl) (Wanted.guard rfl rfl rfl) rfl rfl ?_
            refine T.setF (d := 75) rfl (by omega) ?_
            refine T.pass (Unwanted.guard rfl rfl rfl) rfl rfl ?_
            refine T.pass (Unwanted.guard rfl rfl rfl) rfl rfl ?_
            refine T.pass (Unwanted.guard rfl rfl rfl) rfl rfl ?_
            refine T.pass (Unwanted.guard rfl rfl rfl) rfl rfl ?_
            refine T.pass (Unwanted.guard rfl rfl rfl) rfl rfl ?_
            refine T.pv (PV.pickF rfl rfl rfl) (Wanted.guard rfl rfl rfl) rfl rfl ?_
            refine T.pv (PV.move rfl) (Wanted.guard rfl rfl rfl) rfl rfl ?_
            refine T.pass (Unwanted.guard rfl rfl rfl) rfl rfl ?_
            refine T.pass (Unwanted.guard rfl rfl rfl) rfl rfl ?_
            refine T.pass (Unwanted.guard rfl rfl rfl) rfl rfl ?_
            refine T.pass (Unwanted.guard rfl rfl rfl) rfl rfl ?_
            refine T.pass (Unwanted.guard rfl rfl rfl) rfl rfl ?_
            refine T.pv (PV.pickF rfl rfl rfl) (Wanted.guard rfl rfl rfl) rfl rfl ?_
            refine T.pv (PV.pickF rfl rfl rfl) (Wanted.guard rfl rfl (by assumption)) rfl rfl ?_
            refine T.pv (PV.pickT rfl (by assumption) rfl) Wanted.none rfl rfl ?_
            refine T.opsNil ?_
            (exact K _ _ _ zq8 (Sel.refl _) (by simp; omega))
        rw [if_neg ho2] at K
        refine T.region ?_
        refine T.pv (PV.fieldAddr rfl) Wanted.none rfl rfl ?_
        refine T.pv (PV.load1 rfl zq0 rfl) Wanted.none rfl rfl ?_
        refine T.pv (PV.fieldAddr rfl) Wanted.none rfl rfl ?_
        refine T.pv (PV.load1 rfl zq0 rfl) Wanted.none rfl rfl ?_
        refine T.pv (PV.seql rfl rfl) Wanted.none rfl rfl ?_
        refine T.pv (PV.move rfl) Wanted.none rfl rfl ?_
        refine T.pv (PV.fieldAddr rfl) (Wanted.guard rfl rfl (by assumption)) rfl rfl ?_
        refine T.pv (PV.load1 rfl zq0 rfl) (Wanted.guard rfl rfl (by assumption)) rfl rfl ?_
        refine T.pv (PV.eql rfl rfl) (Wanted.guard rfl rfl (by assumption)) rfl rfl ?_
        refine T.pv (PV.move rfl) (Wanted.guard rfl rfl (by assumption)) rfl rfl ?_
        refine T.setF (d := 56) rfl (by omega) ?_
        refine T.pass (Unwanted.guard rfl rfl rfl) rfl rfl ?_
        refine T.pass (Unwanted.guard rfl rfl rfl) rfl rfl ?_
        refine T.pass (Unwanted.guard rfl rfl rfl) rfl rfl ?_
        refine T.pv (PV.pickF rfl rfl rfl) (Wanted.guard rfl rfl (by assumption)) rfl rfl ?_
        refine T.pv (PV.move rfl) (Wanted.guard rfl rfl (by assumption)) rfl rfl ?_
        refine T.pv (PV.fieldAddr rfl) (Wanted.guard rfl rfl rfl) rfl rfl ?_
        refine T.pv (PV.load1 rfl zq0 rfl) (Wanted.guard rfl rfl rfl) rfl rfl ?_
        refine T.pv (PV.eql rfl rfl) (Wanted.guard rfl rfl rfl) rfl rfl ?_
        refine T.pv (PV.move rfl) (Wanted.guard rfl rfl rfl) rfl rfl ?_
        refine T.setF (d := 65) rfl (by omega) ?_
        refine T.pass (Unwanted.guard rfl rfl rfl) rfl rfl ?_
        refine T.pass (Unwanted.guard rfl rfl rfl) rfl rfl ?_
        refine T.pass (Unwanted.guard rfl rfl rfl) rfl rfl ?_
        refine T.pv (PV.pickF rfl rfl rfl) (Wanted.guard rfl rfl rfl) rfl rfl ?_
        refine T.pv (PV.pickF rfl rfl rfl) (Wanted.guard rfl rfl (by assumption)) rfl rfl ?_
        refine T.pv (PV.move rfl) (Wanted.guard rfl rfl (by assumption)) rfl rfl ?_
        refine T.pv (PV.fieldAddr rfl) (Wanted.guard rfl rfl rfl) rfl rfl ?_
        refine T.pv (PV.load1 rfl zq0 rfl) (Wanted.guard rfl rfl rfl) rfl rfl ?_
        refine T.pv (PV.eql rfl rfl) (Wanted.guard rfl rfl rfl) rfl rfl ?_
        refine T.pv (PV.move rfl) (Wanted.guard rfl rfl rfl) rfl rfl ?_
        refine T.setT (d := 75) rfl (by omega) ?_
        refine T.pv (PV.fieldAddr rfl) (Wanted.guard rfl rfl rfl) rfl rfl ?_
        refine T.pv (PV.load1 rfl zq0 rfl) (Wanted.guard rfl rfl rfl) rfl rfl ?_
        refine T.pv (PV.fieldAddr rfl) (Wanted.guard rfl rfl rfl) rfl rfl ?_
        refine T.pv (PV.load1 rfl zq0 rfl) (Wanted.guard rfl rfl rfl) rfl rfl ?_
        refine T.pv (PV.lss rfl rfl) (Wanted.guard rfl rfl rfl) rfl rfl ?_
        refine T.pv (PV.pickT rfl rfl rfl) (Wanted.guard rfl rfl rfl) rfl rfl ?_
        refine T.pv (PV.move rfl) (Wanted.guard rfl rfl rfl) rfl rfl ?_
        refine T.splitD (d := 82) rfl (fun h0 => ?_) (fun h0 => ?_)
        · refine T.pv (PV.fieldAddr rfl) (Wanted.guard rfl rfl rfl) rfl rfl ?_
          refine T.pv (PV.load1 rfl zq0 rfl) (Wanted.guard rfl rfl rfl) rfl rfl ?_
          refine T.pv (PV.fieldAddr rfl) (Wanted.guard rfl rfl rfl) rfl rfl ?_
          refine T.pv (PV.load1 rfl zq0 rfl) (Wanted.guard rfl rfl rfl) rfl rfl ?_
          refine T.pv (PV.lss rfl rfl) (Wanted.guard rfl rfl rfl) rfl rfl ?_
          refine T.pv (PV.pickT rfl rfl rfl) (Wanted.guard rfl rfl rfl) rfl rfl ?_
          refine T.pv (PV.pickF rfl rfl rfl) (Wanted.guard rfl rfl (by assumption)) rfl rfl ?_
          refine T.pv (PV.pickT rfl (by assumption) rfl) Wanted.none rfl rfl ?_
          refine T.opsNil ?_
          (exact K _ _ _ zq8 (Sel.refl _) (by rw [Bool.eq_iff_iff]; simp <;> omega))
        · refine T.pass (Unwanted.guard rfl rfl rfl) rfl rfl ?_
          refine T.pass (Unwanted.guard rfl rfl rfl) rfl rfl ?_
          refine T.pass (Unwanted.guard rfl rfl rfl) rfl rfl ?_
          refine T.pass (Unwanted.guard rfl rfl rfl) rfl rfl ?_
          refine T.pass (Unwanted.guard rfl rfl rfl) rfl rfl ?_
          refine T.pv (PV.pickF rfl rfl rfl) (Wanted.guard rfl rfl rfl) rfl rfl ?_
          refine T.pv (PV.pickF rfl rfl rfl) (Wanted.guard rfl rfl (by assumption)) rfl rfl ?_
          refine T.pv (PV.pickT rfl (by assumption) rfl) Wanted.none rfl rfl ?_
          refine T.opsNil ?_
          (exact K _ _ _ zq8 (Sel.refl _) (by rw [Bool.eq_iff_iff]; simp <;> omega))
      · have hd := decide_eq_false h0
        rw [hd, Bool.false_and] at K
        refine T.region ?_
        refine T.pv (PV.fieldAddr rfl) Wanted.none rfl rfl ?_
        refine T.pv (PV.load1 rfl zq0 rfl) Wanted.none rfl rfl ?_
        refine T.pv (PV.fieldAddr rfl) Wanted.none rfl rfl ?_
        refine T.pv (PV.load1 rfl zq0 rfl) Wanted.none rfl rfl ?_
        refine T.pv (PV.seql rfl rfl) Wanted.none rfl rfl ?_
        refine T.pv (PV.move rfl) Wanted.none rfl rfl ?_
        refine T.pass (Unwanted.guard rfl rfl (by assumption)) rfl rfl ?_
        refine T.pass (Unwanted.guard rfl rfl (by assumption)) rfl rfl ?_
        refine T.pass (Unwanted.guard rfl rfl (by assumption)) rfl rfl ?_
        refine T.pass (Unwanted.guard rfl rfl (by assumption)) rfl rfl ?_
        refine T.pass (Unwanted.undef rfl rfl) rfl rfl ?_
        refine T.pass (Unwanted.undef rfl rfl) rfl rfl ?_
        refine T.pass (Unwanted.undef rfl rfl) rfl rfl ?_
        refine T.pass (Unwanted.guard rfl rfl (by assumption)) rfl rfl ?_
        refine T.pass (Unwanted.guard rfl rfl (by assumption)) rfl rfl ?_
        refine T.pass (Unwanted.undef rfl rfl) rfl rfl ?_
        refine T.pass (Unwanted.undef rfl rfl) rfl rfl ?_
        refine T.pass (Unwanted.undef rfl rfl) rfl rfl ?_
        refine T.pass (Unwanted.undef rfl rfl) rfl rfl ?_
        refine T.pass (Unwanted.undef rfl rfl) rfl rfl ?_
        refine T.pass (Unwanted.undef rfl rfl) rfl rfl ?_
        refine T.pass (Unwanted.undef rfl rfl) rfl rfl ?_
        refine T.pass (Unwanted.undef rfl rfl) rfl rfl ?_
        refine T.pass (Unwanted.guard rfl rfl (by assumption)) rfl rfl ?_
        refine T.pass (Unwanted.guard rfl rfl (by assumption)) rfl rfl ?_
        refine T.pass (Unwanted.undef rfl rfl) rfl rfl ?_
        refine T.pass (Unwanted.undef rfl rfl) rfl rfl ?_
        refine T.pass (Unwanted.undef rfl rfl) rfl rfl ?_
        refine T.pass (Unwanted.undef rfl rfl) rfl rfl ?_
        refine T.pass (Unwanted.undef rfl rfl) rfl rfl ?_
        refine T.pass (Unwanted.undef rfl rfl) rfl rfl ?_
        refine T.pass (Unwanted.undef rfl rfl) rfl rfl ?_
        refine T.pass (Unwanted.undef rfl rfl) rfl rfl ?_
        refine T.pass (Unwanted.undef rfl rfl) rfl rfl ?_
        refine T.pass (Unwanted.undef rfl rfl) rfl rfl ?_
        refine T.pass (Unwanted.undef rfl rfl) rfl rfl ?_
        refine T.pass (Unwanted.undef rfl rfl) rfl rfl ?_
        refine T.pass (Unwanted.undef rfl rfl) rfl rfl ?_
        refine T.pass (Unwanted.undef rfl rfl) rfl rfl ?_
        refine T.pass (Unwanted.undef rfl rfl) rfl rfl ?_
        refine T.pass (Unwanted.undef rfl rfl) rfl rfl ?_
        refine T.pass (Unwanted.undef rfl rfl) rfl rfl ?_
        refine T.pass (Unwanted.guard rfl rfl (by assumption)) rfl rfl ?_
        refine T.pv (PV.pickF rfl (by assumption) rfl) Wanted.none rfl rfl ?_
        refine T.opsNil ?_
        (exact K _ _ _ zq8 (Sel.refl _) rfl)
    intro q' hq'
    rw [← hq'] at hst
    cases q'
    · rw [Bool.or_false] at hst
      refine T.condF rfl rfl ?_
      refine T.skip ?_
      refine T.blkEnd ?_
      refine T.region ?_
      refine T.pv (PV.add rfl rfl (by omega)) Wanted.none rfl rfl ?_
      refine T.pv (PV.move rfl) Wanted.none rfl rfl ?_
      refine T.opsNil ?_
      exact T.nextP (i + 1, q) ⟨by dsimp only; omega, hst.symm⟩ (by dsimp only; omega) zq8 (by repeat (first | exact Sel.refl _ | exact Sel.nil | (refine Sel.cons zq1 ?_) | (refine Sel.app zq1 ?_) | exact Sel.one zq1)) rfl
    · rw [Bool.or_true] at hst
      refine T.condT rfl rfl ?_
      refine T.region ?_
      refine T.pv (PV.assign rfl) Wanted.none rfl rfl ?_
      refine T.opsNil ?_
      refine T.blkEnd ?_
      refine T.region ?_
      refine T.pv (PV.add rfl rfl (by omega)) Wanted.none rfl rfl ?_
      refine T.pv (PV.move rfl) Wanted.none rfl rfl ?_
      refine T.opsNil ?_
      exact T.nextP (i + 1, true) ⟨by dsimp only; omega, hst.symm⟩ (by dsimp only; omega) zq8 (by repeat (first | exact Sel.refl _ | exact Sel.nil | (refine Sel.cons zq1 ?_) | (refine Sel.app zq1 ?_) | exact Sel.one zq1)) rfl
  · rw [List.take_of_length_le (by omega)] at g2
    refine T.seq ?_
    refine T.region ?_
    refine T.pv (PV.lss rfl rfl) Wanted.none rfl rfl ?_
    refine T.opsNil ?_
    refine T.seq ?_
    refine T.condF rfl (decide_eq_false (by omega)) ?_
    refine T.exit rfl ?_
    refine T.seq ?_
    refine T.region ?_
    refine T.pv (PV.move rfl) Wanted.none rfl rfl ?_
    refine T.pv (PV.fieldAddr rfl) Wanted.none rfl rfl ?_
    refine T.pv (PV.load1 rfl zq0 rfl) Wanted.none rfl rfl ?_
    refine T.pv (PV.bneq rfl rfl) Wanted.none rfl rfl ?_
    refine T.pv (PV.assign rfl) Wanted.none rfl rfl ?_
    refine T.opsNil ?_
    exact T.retF (Lv.fin (RV.tmp rfl rfl) (by rw [g2]; cases someB c.rg f s <;> cases f.nt <;> rfl))
end Go.Proofs.Ytchgfjclchhgmaa
