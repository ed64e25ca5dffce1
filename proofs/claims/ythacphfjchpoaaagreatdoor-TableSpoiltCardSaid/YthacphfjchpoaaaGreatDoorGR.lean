/- Own layer: what is frozen and of this call may be written again.
   table: the reference's sum makes all that it returns.
   table: Count: the reference; all that it returns is new. -/
import Derived.Test.YthacphfjchpoaaaGreatDoorGM
namespace Go.Proofs.YthacphfjchpoaaaGreatDoor
open Go.RowKit

def Hp.less (H : Hp) (b : Nat) : Hp := fun c => if c = b then none else H c
theorem Hp.less_le {H H' : Hp} {b : Nat} (h : H.le H') (hb : H b = none) : H.le (H'.less b) := fun c o hc => by
  unfold Hp.less
  by_cases e : c = b
  · rw [e, hb] at hc; cases hc
  · rw [if_neg e]; exact h c o hc
theorem Hp.less_ne {H : Hp} {b c : Nat} (h : c ≠ b) : H.less b c = H c := if_neg h
def blkV : Value → Nat
  | .slice (some a) _ _ => a.block
  | _ => 0
theorem SlR.less {H : Hp} {sz n b : Nat} {v : Value} {xs : List Value} (h : SlR H sz v n xs) (hb : blkV v ≠ b ∨ n = 0) : SlR (H.less b) sz v n xs := by
  obtain ⟨h1, h2 | ⟨b', off, cap, cs, t, fz, rfl, h3, h4, h5⟩⟩ := h
  · exact ⟨h1, .inl h2⟩
  · rcases hb with hb | rfl
    · exact ⟨h1, .inr ⟨b', off, cap, cs, t, fz, rfl, by rw [Hp.less_ne (show b' ≠ b from hb)]; exact h3, h4, h5⟩⟩
    · exact ⟨h1, .inl ⟨⟨_, _, rfl⟩, rfl⟩⟩
section
variable {P : Program} {X : Cx} {e : Env} {l : List (Nat × Obj)} {H : Hp} {D : List Deferred} {k : List It}
theorem T.thaw {b : Nat} {o : Obj} (hx : X.H0 b = none) (hb : H b = some o) (h : T P X e ((b, o) :: l) (H.less b) D k) : T P X e l H D k := T.mk fun a w ha hw => by
  refine h.get a w ha ⟨fun p hp => ?_, ?_, fun c o' hc => ?_, hw.keep, ?_, fun c hc hp => ?_⟩
  · rcases List.mem_cons.1 hp with rfl | hp
    · refine ⟨hw.fro _ _ hb, if_pos rfl, fun hl hpt => ?_⟩
      have h1 := hw.ext b hl hpt
      rw [hx, hb] at h1
      cases h1
    · obtain ⟨h1, h2, h3⟩ := hw.own p hp
      refine ⟨h1, ?_, h3⟩
      unfold Hp.less
      split
      · rfl
      · exact h2
  · rw [List.map_cons, List.nodup_cons]
    refine ⟨fun hm => ?_, hw.nd⟩
    obtain ⟨q, hq, he⟩ := List.mem_map.1 hm
    have := (hw.own q hq).2.1
    rw [he, hb] at this
    cases this
  · unfold Hp.less at hc
    split at hc
    · cases hc
    · exact hw.fro c o' hc
  · exact Hp.less_le hw.le hx
  · have h1 := hw.ext c hc hp
    by_cases e : c = b
    · subst e; rw [hx, hb] at h1; cases h1
    · rw [Hp.less_ne e]; exact h1
theorem T.freezeN {el sz : Nat} {v : Value} {lv r : List (Nat × Obj)} {n : Nat} {xs : List Value} (hv : Vec el sz v lv n xs) (hpk : Pick l lv r) (h : ∀ H', H.le H' → SlR H' sz v n xs → (∀ p ∈ lv, H' p.1 = some p.2 ∧ H p.1 = none) → T P X e r H' D k) : T P X e l H D k := by
  refine T.perm hpk.perm ?_
  rcases hv with ⟨hx, ⟨⟨ad, rfl⟩, rfl, rfl⟩ | ⟨b, cap, cs, rfl, rfl, h1, h2, h3, h4⟩⟩
  · exact h H (Hp.le.refl _) ⟨hx, .inl ⟨⟨_, _, rfl⟩, rfl⟩⟩ (by simp)
  · refine T.mk fun a w ha hw => ?_
    have hn := (hw.own _ List.mem_cons_self).2.1
    exact (h _ (Hp.le_put hn) ⟨hx, .inr ⟨b, 0, cap, cs, _, _, rfl, Hp.put_same, by rw [List.drop_zero]; exact h4, h1⟩⟩ (fun p hp => by rw [List.mem_singleton] at hp; subst hp; exact ⟨Hp.put_same, hn⟩)).get a w ha (Wd.freeze hw)
end
/-- rows of which all lies in blocks that the call has made -/
structure RwN (H H' : Hp) (v : Value) (A : List Rw) : Prop where
  rows : ∃ lv, Vec 52 2 v lv A.length (A.flatMap encRw) ∧ ∀ p ∈ lv, H' p.1 = some p.2 ∧ H p.1 = none ∧ p.1 ∉ A.map (fun r => blkV r.kv)
  keys : ∀ r ∈ A, ∃ o, Vec 9 1 r.kv [(blkV r.kv, o)] r.ks.length (r.ks.flatMap encT) ∧ H' (blkV r.kv) = some o ∧ H (blkV r.kv) = none
  nd : (A.map fun r => blkV r.kv).Nodup
theorem RwN.nil (H H' : Hp) : RwN H H' (.slice none 0 0) [] := ⟨⟨[], Vec.nil _ _, by simp⟩, by simp, by simp⟩
theorem RwN.mono {H H' H2 : Hp} {v : Value} {A : List Rw} (h : RwN H H' v A) (hl : H'.le H2) : RwN H H2 v A :=
  ⟨h.rows.imp fun _ ⟨h1, h2⟩ => ⟨h1, fun p hp => ⟨hl _ _ (h2 p hp).1, (h2 p hp).2⟩⟩, fun r hr => (h.keys r hr).imp fun _ ⟨h1, h2, h3⟩ => ⟨h1, hl _ _ h2, h3⟩, h.nd⟩
theorem Hp.le_none {H H' : Hp} (h : H.le H') {b : Nat} (hb : H' b = none) : H b = none := by
  cases hh : H b with
  | none => rfl
  | some o => rw [h _ _ hh] at hb; cases hb
/-- keys that were copied just now -/
theorem keys_new {H H6 H48 : Hp} {ad : Option Addr} {n cap : Nat} {lv : List (Nat × Obj)} {ks : List ByteArray} (hn : n = ks.length) (hne : ks ≠ []) (hv : Vec 9 1 (.slice ad n cap) lv n (ks.flatMap encT)) (hl : H.le H6) (hlv : ∀ p ∈ lv, H48 p.1 = some p.2 ∧ H6 p.1 = none) :
    (∃ o, Vec 9 1 (.slice ad n cap) [(blkV (.slice ad n cap), o)] ks.length (ks.flatMap encT) ∧ H48 (blkV (.slice ad n cap)) = some o ∧ H (blkV (.slice ad n cap)) = none) ∧ H6 (blkV (.slice ad n cap)) = none := by
  have h0 : n ≠ 0 := by rw [hn]; exact fun h => hne (List.eq_nil_of_length_eq_zero h)
  obtain ⟨hx, ⟨_, _, h⟩ | ⟨b, cap', cs, he, rfl, h1, h2, h3, h4⟩⟩ := hv
  · exact absurd h h0
  · injection he with e1 e2 e3
    subst e1 e3
    obtain ⟨k1, k2⟩ := hlv _ (List.mem_singleton.2 rfl)
    exact ⟨⟨_, ⟨by rw [← hn]; exact hx, .inr ⟨b, _, cs, by rw [← hn], rfl, by rw [← hn]; exact h1, h2, h3, by rw [← hn]; exact h4⟩⟩, k1, Hp.le_none hl k2⟩, k2⟩
theorem RwN.ins {H H48 H9 : Hp} {v v9 : Value} {A A' : List Rw} {y0 : Rw} {lv9 : List (Nat × Obj)} {H6 : Hp} (h : RwN H H6 v A) (hl6 : H6.le H48) (hl : H48.le H9) (hp : A'.Perm (y0 :: A)) (hv : Vec 52 2 v9 lv9 A'.length (A'.flatMap encRw))
    (hlv : ∀ p ∈ lv9, H9 p.1 = some p.2 ∧ H48 p.1 = none) (hH : H.le H48) (hk : (∃ o, Vec 9 1 y0.kv [(blkV y0.kv, o)] y0.ks.length (y0.ks.flatMap encT) ∧ H48 (blkV y0.kv) = some o ∧ H (blkV y0.kv) = none) ∧ H6 (blkV y0.kv) = none) : RwN H H9 v9 A' := by
  obtain ⟨⟨o, k1, k2, k3⟩, k4⟩ := hk
  have hmem : ∀ r ∈ A', r = y0 ∨ r ∈ A := fun r hr => List.mem_cons.1 (hp.mem_iff.1 hr)
  have hsome : ∀ r ∈ A', ∃ o, H48 (blkV r.kv) = some o := fun r hr => by
    rcases hmem r hr with rfl | hr
    · exact ⟨o, k2⟩
    · obtain ⟨o', _, e, _⟩ := h.keys r hr
      exact ⟨o', hl6 _ _ e⟩
  refine ⟨⟨lv9, hv, fun p hp => ⟨(hlv p hp).1, Hp.le_none hH (hlv p hp).2, fun hm => ?_⟩⟩, fun r hr => ?_, ?_⟩
  · obtain ⟨r, hr, he⟩ := List.mem_map.1 hm
    obtain ⟨o', e⟩ := hsome r hr
    rw [he, (hlv p hp).2] at e
    cases e
  · rcases hmem r hr with rfl | hr
    · exact ⟨o, k1, hl _ _ k2, k3⟩
    · obtain ⟨o', e1, e2, e3⟩ := h.keys r hr
      exact ⟨o', e1, hl _ _ (hl6 _ _ e2), e3⟩
  · rw [(hp.map _).nodup_iff, List.map_cons, List.nodup_cons]
    refine ⟨fun hm => ?_, h.nd⟩
    obtain ⟨r, hr, he⟩ := List.mem_map.1 hm
    obtain ⟨o', _, e, _⟩ := h.keys r hr
    rw [he, k4] at e
    cases e
end Go.Proofs.YthacphfjchpoaaaGreatDoor
namespace Go.Proofs.YthacphfjchpoaaaGreatDoor
open Go.RowKit

set_option maxHeartbeats 8000000 in
theorem sum_refN (L : List Rw) (v : Value) (H : Hp) (hL : RwL H v L) (hLl : L.length ≤ 1000) (hn : ∀ r ∈ L, 0 ≤ r.n ∧ r.n ≤ 1099511627776) (hne : ∀ r ∈ L, r.ks ≠ []) :
    Fn Tryz.prog 39 #[v] H (fun u H' => ∃ A, RwL H' u A ∧ A.map rwK = sumR (L.map rwK) ∧ RwN H H' u A) := by
  obtain ⟨am, cm, rfl⟩ := hL.1.len
  obtain ⟨F, hF⟩ : ∃ F, F = L.map rwK := ⟨_, rfl⟩
  have hFl : F.length = L.length := by rw [hF, List.length_map]
  have hFn : ∀ x ∈ F, 0 ≤ x.2 ∧ x.2 ≤ 1099511627776 := by rw [hF]; rintro x hx; obtain ⟨z, hz, rfl⟩ := List.mem_map.1 hx; exact hn z hz
  refine Fn.of_T (vs := [.slice am L.length cm]) Tryz.func39 rfl rfl fun w => ?_
  rw [← hF]
  refine zs3 ?_; refine yq23 ?_; refine yq0 ?_; refine yq112 ?_; refine T.loopK [(13, Value.int IntKind.i64 (↑L.length : Int)), (12, Value.slice am L.length cm), (0, Value.slice am L.length cm)] zq8 (γ := RsG) (fun g => g.i ≤ L.length ∧ H.le g.H ∧ RwL g.H g.v g.A ∧ g.A.map rwK = sortK ltR (gotR F g.i) ∧ g.A.length ≤ g.i ∧ RwN H g.H g.v g.A) (fun g => [(14, .int .i64 (g.i : Int)), (3, g.v)]) (fun _ => []) (fun g => g.H) (fun g => L.length - g.i) ⟨0, H, .slice none 0 0, []⟩ ⟨by simp, Hp.le.refl _, ⟨SlR.empty, by simp⟩, rfl, by simp, RwN.nil _ _⟩ zq8 (by repeat (first | exact Sel.refl _ | exact Sel.nil | (refine Sel.cons zq1 ?_) | (refine Sel.app zq1 ?_) | exact Sel.one zq1)) rfl ?_
  rintro ⟨i, H6, v, A⟩ ⟨g1, g2, g3, g4, g5, g6⟩
  dsimp only at g1 g2 g3 g4 g5 g6 ⊢
  obtain ⟨aA, cA, rfl⟩ := g3.1.len
  by_cases hi : i < L.length
  · obtain ⟨bx, off, r, rfl, hix, hsub⟩ := RowL.get encRw_len (hL.1.mono g2) hi
    have hmm := List.mem_of_getElem? hix
    have hrok := (hL.2 r hmm).mono g2
    obtain ⟨ar, cr, hrv⟩ := hrok.1.len
    have hrs := hrok.1
    rw [hrv] at hrs
    unfold encRw at hsub
    rw [hrv] at hsub
    have hrl := hrok.2.1
    have hFi : F[i]? = some (rwK r) := by rw [hF, List.getElem?_map, hix]; rfl
    refine yq155 ?_; refine sy fun b5 => ?_; refine sa ?_; refine yq10 ?_; refine yq55 ?_; refine yq112 ?_; refine T.loopK [(20, Value.int IntKind.i64 (↑L.length : Int)), (19, Value.slice (some { block := bx, off := off }) L.length cm), (4, Value.int IntKind.i64 (↑i : Int)), (5, Value.pointer (some { block := b5, off := 0 })), (14, Value.int IntKind.i64 (↑i : Int)), (3, Value.slice aA A.length cA), (13, Value.int IntKind.i64 (↑L.length : Int)), (12, Value.slice (some { block := bx, off := off }) L.length cm), (0, Value.slice (some { block := bx, off := off }) L.length cm)] zq8 (γ := RsJ) (fun g => g.j ≤ L.length ∧ g.q = fstB (F.take (min g.j i)) r.ks ∧ g.n = tot (F.take g.j) r.ks) (fun g => [(21, .int .i64 (g.j : Int)), (6, .bool g.q), (7, .int .i64 g.n)]) (fun _ => [(b5, .cells #[.slice ar r.ks.length cr, .int .i64 r.n] 52 (0, 0))]) (fun _ => H6) (fun g => L.length - g.j) ⟨0, true, 0⟩ ⟨by simp, by simp [fstB], by simp [tot]⟩ zq8 (by repeat (first | exact Sel.refl _ | exact Sel.nil | (refine Sel.cons zq1 ?_) | (refine Sel.app zq1 ?_) | exact Sel.one zq1)) rfl ?_
    rintro ⟨j, q, n⟩ ⟨j1, j2, j3⟩
    dsimp only at j1 j2 j3 ⊢
    by_cases hj : j < L.length
    · obtain ⟨by1, offy, x, hye, hjx, hsuby⟩ := RowL.get encRw_len (hL.1.mono g2) hj
      simp only [Option.some.injEq, Addr.mk.injEq, and_true] at hye
      obtain ⟨rfl, rfl⟩ := hye
      have hxm := List.mem_of_getElem? hjx
      have hxok := (hL.2 x hxm).mono g2
      obtain ⟨ax, cx, hxv⟩ := hxok.1.len
      have hxs := hxok.1
      rw [hxv] at hxs
      unfold encRw at hsuby
      rw [hxv] at hsuby
      have hxl := hxok.2.1
      have hFj : F[j]? = some (rwK x) := by rw [hF, List.getElem?_map, hjx]; rfl
      have htk : tot (F.take (j + 1)) r.ks = tot (F.take j) r.ks + (if x.ks = r.ks then x.n else 0) := by
        rw [List.take_add_one, hFj, tot_append]
        show _ + tot [rwK x] r.ks = _
        rw [tot_cons, tot_nil, Int.add_zero]; rfl
      have hbd := tot_bound (m := 1099511627776) (by omega) (l := F.take j) (fun y hy => hFn y (List.mem_of_mem_take hy)) r.ks
      have hlen : (F.take j).length ≤ 1000 := by rw [List.length_take]; omega
      have hxn := hn x hxm
      have hcx := cmpX_fn r.ks x.ks _ _ H6 hrs hxs (by omega) (by omega)
      have hc0 := (cX_cL r.ks x.ks).2
      rw [cL_iff] at hc0
      by_cases e : x.ks = r.ks
      · have hz : cX r.ks x.ks = 0 := hc0.2 e.symm
        rw [hz] at hcx
        rw [if_pos e] at htk
        by_cases hq : j < i
        · have hq2 : fstB (F.take (min (j + 1) i)) r.ks = false := by
            rw [show min (j + 1) i = j + 1 by omega, List.take_add_one, hFj]
            show fstB (F.take j ++ [rwK x]) r.ks = false
            rw [fstB_snoc, decide_eq_false (show ¬ (rwK x).1 ≠ r.ks from not_not_intro e), Bool.and_false]
          cases q
          · refine yq155 ?_; refine sy fun b9 => ?_; refine sa ?_; refine yq115 ?_; refine yq5 ?_; refine T.callV Wanted.none rfl rfl (hcx) ?_; refine yq197 ?_; refine yq137 ?_; refine yq8 ?_; refine sp ?_; refine sF ?_; refine sa ?_; refine zs2 ?_; refine sm ?_; refine yq5 ?_; refine yq63 ?_; refine T.blkEnd ?_
            refine sr ?_; refine yq60 ?_
            exact T.nextP ⟨j + 1, false, n + x.n⟩ ⟨by dsimp only; omega, hq2.symm, by dsimp only; omega⟩ (by dsimp only; omega) zq8 (by repeat (first | exact Sel.refl _ | exact Sel.nil | (refine Sel.cons zq1 ?_) | (refine Sel.app zq1 ?_) | exact Sel.one zq1)) rfl
          · refine yq155 ?_; refine sy fun b9 => ?_; refine sa ?_; refine yq115 ?_; refine yq5 ?_; refine T.callV Wanted.none rfl rfl (hcx) ?_; refine yq197 ?_; refine yq137 ?_; refine gm ?_; refine gm ?_; refine gv (PV.geq rfl rfl) ?_; refine sT ?_; refine sa ?_; refine zs2 ?_; refine sm ?_; refine yq5 ?_; refine yq63 ?_; refine T.blkEnd ?_
            refine sr ?_; refine yq60 ?_
            rw [show decide ((i : Int) ≤ (j : Int)) = false from decide_eq_false (by omega)]
            exact T.nextP ⟨j + 1, false, n + x.n⟩ ⟨by dsimp only; omega, hq2.symm, by dsimp only; omega⟩ (by dsimp only; omega) zq8 (by repeat (first | exact Sel.refl _ | exact Sel.nil | (refine Sel.cons zq1 ?_) | (refine Sel.app zq1 ?_) | exact Sel.one zq1)) rfl
        · have hq2 : fstB (F.take (min (j + 1) i)) r.ks = q := by rw [j2, show min (j + 1) i = min j i by omega]
          cases q
          · refine yq155 ?_; refine sy fun b9 => ?_; refine sa ?_; refine yq115 ?_; refine yq5 ?_; refine T.callV Wanted.none rfl rfl (hcx) ?_; refine yq197 ?_; refine yq137 ?_; refine yq8 ?_; refine sp ?_; refine sF ?_; refine sa ?_; refine zs2 ?_; refine sm ?_; refine yq5 ?_; refine yq63 ?_; refine T.blkEnd ?_
            refine sr ?_; refine yq60 ?_
            exact T.nextP ⟨j + 1, false, n + x.n⟩ ⟨by dsimp only; omega, hq2.symm, by dsimp only; omega⟩ (by dsimp only; omega) zq8 (by repeat (first | exact Sel.refl _ | exact Sel.nil | (refine Sel.cons zq1 ?_) | (refine Sel.app zq1 ?_) | exact Sel.one zq1)) rfl
          · refine yq155 ?_; refine sy fun b9 => ?_; refine sa ?_; refine yq115 ?_; refine yq5 ?_; refine T.callV Wanted.none rfl rfl (hcx) ?_; refine yq197 ?_; refine yq137 ?_; refine gm ?_; refine gm ?_; refine gv (PV.geq rfl rfl) ?_; refine sT ?_; refine sa ?_; refine zs2 ?_; refine sm ?_; refine yq5 ?_; refine yq63 ?_; refine T.blkEnd ?_
            refine sr ?_; refine yq60 ?_
            rw [show decide ((i : Int) ≤ (j : Int)) = true from decide_eq_true (by omega)]
            exact T.nextP ⟨j + 1, true, n + x.n⟩ ⟨by dsimp only; omega, hq2.symm, by dsimp only; omega⟩ (by dsimp only; omega) zq8 (by repeat (first | exact Sel.refl _ | exact Sel.nil | (refine Sel.cons zq1 ?_) | (refine Sel.app zq1 ?_) | exact Sel.one zq1)) rfl
      · have hz : ¬ cX r.ks x.ks = 0 := fun h => e (hc0.1 h).symm
        rw [if_neg e] at htk
        have hq2 : fstB (F.take (min (j + 1) i)) r.ks = q := by
          rw [j2]
          by_cases hq : j < i
          · rw [show min (j + 1) i = j + 1 by omega, show min j i = j by omega, List.take_add_one, hFj]
            show fstB (F.take j ++ [rwK x]) r.ks = _
            rw [fstB_snoc, decide_eq_true (show (rwK x).1 ≠ r.ks from e), Bool.and_true]
          · rw [show min (j + 1) i = min j i by omega]
        refine yq155 ?_; refine sy fun b9 => ?_; refine sa ?_; refine yq115 ?_; refine yq5 ?_; refine T.callV Wanted.none rfl rfl (hcx) ?_; refine sv (PV.eql rfl rfl) ?_; refine yq88 ?_; refine yq61 ?_
        exact T.nextP ⟨j + 1, q, n⟩ ⟨by dsimp only; omega, hq2.symm, by dsimp only; omega⟩ (by dsimp only; omega) zq8 (by repeat (first | exact Sel.refl _ | exact Sel.nil | (refine Sel.cons zq1 ?_) | (refine Sel.app zq1 ?_) | exact Sel.one zq1)) rfl
    · have hFt : F.take j = F := List.take_of_length_le (by omega)
      rw [show min j i = i by omega] at j2
      rw [hFt] at j3
      subst j3
      cases q
      · have hm : (rwK r).1 ∈ dk (F.take i) := by
          by_cases h : r.ks ∈ dk (F.take i)
          · exact h
          · rw [fstB_dk.2 h] at j2; cases j2
        have hst := gotR_skip hFi hm
        refine yq74 ?_; refine yq14 ?_; refine sv (PV.not rfl) ?_; refine yq36 ?_; refine T.exit rfl ?_; refine sr ?_; refine yq60 ?_
        exact T.nextP ⟨i + 1, H6, _, A⟩ ⟨by dsimp only; omega, g2, g3, by dsimp only; rw [hst]; exact g4, by dsimp only; omega, g6⟩ (by dsimp only; omega) zq8 (by repeat (first | exact Sel.refl _ | exact Sel.nil | (refine Sel.cons zq1 ?_) | (refine Sel.app zq1 ?_) | exact Sel.one zq1)) rfl
      · have hm : (rwK r).1 ∉ dk (F.take i) := fstB_dk.1 j2.symm
        have hst := gotR_push hFi hm
        obtain ⟨tn, htn⟩ : ∃ tn, tn = tot F r.ks := ⟨_, rfl⟩
        have hst2 : gotR F (i + 1) = gotR F i ++ [(r.ks, tn)] := by rw [hst, htn]; rfl
        rw [← htn]
        refine yq74 ?_; refine yq14 ?_; refine sv (PV.not rfl) ?_; refine yq92 ?_; refine zs3 ?_; (refine T.buildSlice Wanted.none rfl rfl zq11 (by exact rfl) (by exact rfl) ?_; intro b45); refine yq5 ?_; (refine T.appendP (lv := []) Wanted.none rfl rfl rfl (Vec.empty 9 1 _) hrs.src (RowL.one fun x _ => one_encT x) (by omega) zq1 ?_; intro v48 lv48 hv48 _; obtain ⟨ad48, cap48, rfl⟩ := hv48.val; refine T.freezeN (lv := lv48) hv48 zq1 ?_; intro H48 h48 hs48 hn48); refine sm ?_; refine sv (PV.build rfl zq12) ?_; refine sy fun b10 => ?_; refine yq13 ?_
        rw [Nat.zero_add, List.nil_append] at hs48
        rw [Nat.zero_add r.ks.length]
        rw [Nat.zero_add, List.nil_append] at hv48
        have hkn := keys_new rfl (hne r hmm) hv48 g2 hn48
        clear hv48 hn48
        obtain ⟨y0, hy0⟩ : ∃ y0 : Rw, y0 = ⟨.slice ad48 r.ks.length cap48, r.ks, tn⟩ := ⟨_, rfl⟩
        have hy0k : y0.kv = .slice ad48 r.ks.length cap48 := by rw [hy0]
        have hy0n : y0.n = tn := by rw [hy0]
        have hy0ok : RwOk H48 y0 := by rw [hy0]; exact ⟨hs48, hrok.2⟩
        have hy0E : encRw y0 = [.slice ad48 r.ks.length cap48, .int .i64 tn] := by rw [hy0]; rfl
        have hkn' : (∃ o, Vec 9 1 y0.kv [(blkV y0.kv, o)] y0.ks.length (y0.ks.flatMap encT) ∧ H48 (blkV y0.kv) = some o ∧ H (blkV y0.kv) = none) ∧ H6 (blkV y0.kv) = none := by rw [hy0]; exact hkn
        clear hkn
        have hone := one_encRw hy0ok
        rw [hy0E] at hone
        have g3' := g3.mono h48
        have hcap := g3.1.cap
        have hins : (insE (fun a b => ltR (rwK a) (rwK b)) A y0).map rwK = sortK ltR (gotR F (i + 1)) := by
          rw [hst2, sortK_snoc, ← g4]
          rw [← insE_map rwK (fun a b => ltR (rwK a) (rwK b)) ltR A y0 (fun y _ => rfl)]
          rw [hy0]; rfl
        refine yq2 ?_; refine sv (PV.lenSl rfl) ?_; refine yq0 ?_; refine yq17 ?_; refine T.cut2G [(10, Value.pointer (some { block := b10, off := 0 })), (14, Value.int IntKind.i64 (↑i : Int)), (3, Value.slice aA A.length cA), (13, Value.int IntKind.i64 (↑L.length : Int)), (12, Value.slice (some { block := bx, off := off }) L.length cm), (0, Value.slice (some { block := bx, off := off }) L.length cm)] (γ := Nat) (fun k => k = insK (fun a b => ltR (rwK a) (rwK b)) A y0 A.length ∧ k ≤ A.length) (fun k => [(11, .int .i64 (k : Int))]) (fun _ => [(b10, .cells #[.slice ad48 r.ks.length cap48, .int .i64 tn] 52 (0, 0))]) ?_ fun K => ?_
        · rintro k ⟨hk1, hk2⟩
          dsimp only [List.cons_append, List.nil_append]
          have hTo : ∀ y ∈ A.take k, RwOk H48 y := fun y hy => g3'.2 y (List.mem_of_mem_take hy)
          have hDo : ∀ y ∈ A.drop k, RwOk H48 y := fun y hy => g3'.2 y (List.mem_of_mem_drop hy)
          have e1 : (insE (fun a b => ltR (rwK a) (rwK b)) A y0).length = 0 + k + 1 + (A.length - k) := by rw [insE_length]; omega
          have e2 : (insE (fun a b => ltR (rwK a) (rwK b)) A y0).flatMap encRw = [] ++ (A.take k).flatMap encRw ++ [.slice ad48 r.ks.length cap48, .int .i64 tn] ++ (A.drop k).flatMap encRw := by
            unfold insE
            rw [← hk1, List.flatMap_append, List.flatMap_cons, hy0E]
            simp
          skip
          (repeat refine sq ?_)
          refine T.cut1P (γ := RsV) (fun g => Vec 52 2 g.v g.lv (0 + k + 1 + (A.length - k)) ([] ++ (A.take k).flatMap encRw ++ [.slice ad48 r.ks.length cap48, .int .i64 tn] ++ (A.drop k).flatMap encRw)) (fun g => (3, g.v) :: [(14, Value.int IntKind.i64 (↑i : Int)), (13, Value.int IntKind.i64 (↑L.length : Int)), (12, Value.slice (some { block := bx, off := off }) L.length cm), (0, Value.slice (some { block := bx, off := off }) L.length cm)]) (fun g => g.lv) ?_ fun K => ?_
          · rintro ⟨v9, lv9⟩ h9
            dsimp only at h9 ⊢
            refine T.freezeN (lv := lv9) h9 zq1 ?_
            intro H9 h69 hs9 hn9
            have hfin : RwL H9 v9 (insE (fun a b => ltR (rwK a) (rwK b)) A y0) := by
              refine ⟨by rw [e1, e2]; exact hs9, fun y hy => ?_⟩
              rcases List.mem_cons.1 ((insE_perm _ _ _).mem_iff.1 hy) with rfl | hy
              · exact hy0ok.mono h69
              · exact (g3'.2 y hy).mono h69
            refine yq61 ?_
            exact T.nextP ⟨i + 1, H9, _, insE (fun a b => ltR (rwK a) (rwK b)) A y0⟩ ⟨by dsimp only; omega, (g2.trans h48).trans h69, hfin, hins, by dsimp only; rw [insE_length]; omega, RwN.ins g6 h48 h69 (insE_perm _ _ _) (by rw [e1, e2]; exact h9) hn9 (g2.trans h48) hkn'⟩ (by dsimp only; omega) zq8 (by repeat (first | exact Sel.refl _ | exact Sel.nil | (refine Sel.cons zq1 ?_) | (refine Sel.app zq1 ?_) | exact Sel.one zq1)) rfl
          · refine T.regionS [(b10, .cells #[.slice ad48 r.ks.length cap48, .int .i64 tn] 52 (0, 0))] 12 (by kernel_rfl) ?_; refine TS.take 1 rfl (by kernel_rfl) (by kernel_rfl) (by kernel_rfl) (by kernel_rfl) (PV.move rfl) Wanted.none rfl rfl ?_; refine TS.take 2 rfl (by kernel_rfl) (by kernel_rfl) (by kernel_rfl) (by kernel_rfl) (PV.move rfl) Wanted.none rfl rfl ?_; refine TS.take 3 rfl (by kernel_rfl) (by kernel_rfl) (by kernel_rfl) (by kernel_rfl) (PV.sliceH rfl rfl (by omega)) Wanted.none rfl rfl ?_; refine TS.take 5 rfl (by kernel_rfl) (by kernel_rfl) (by kernel_rfl) (by kernel_rfl) (PV.loadAll rfl zq0 (by exact rfl)) Wanted.none rfl rfl ?_; refine TS.take 8 rfl (by kernel_rfl) (by kernel_rfl) (by kernel_rfl) (by kernel_rfl) (PV.move rfl) Wanted.none rfl rfl ?_; refine TS.take 9 rfl (by kernel_rfl) (by kernel_rfl) (by kernel_rfl) (by kernel_rfl) (PV.move rfl) Wanted.none rfl rfl ?_; refine TS.take 10 rfl (by kernel_rfl) (by kernel_rfl) (by kernel_rfl) (by kernel_rfl) (PV.sliceL rfl rfl (by omega)) Wanted.none rfl rfl ?_
            refine TS.ways [0, 6] (by kernel_rfl) rfl zq20 ⟨⟨_, rfl, ?_⟩, ⟨_, rfl, ?_⟩, trivial⟩
            · (refine T.buildSlice Wanted.none rfl rfl zq11 (by exact rfl) (by exact rfl) ?_; intro b66); refine yq24 ?_
              refine TS.ways [4, 6] (by kernel_rfl) rfl zq20 ⟨⟨_, rfl, ?_⟩, ⟨_, rfl, ?_⟩, trivial⟩
              · (refine T.appendP (lv := []) Wanted.none rfl rfl rfl (Vec.empty 52 2 _) (RwS.pre g3'.1 hk2).src (one_flatW hTo) (by omega) zq1 ?_; intro v70 lv70 hv70 _; obtain ⟨ad70, cap70, rfl⟩ := hv70.val); refine yq24 ?_
                refine TS.ways [6] (by kernel_rfl) rfl zq20 ⟨⟨_, rfl, ?_⟩, trivial⟩
                (refine T.buildSlice Wanted.none rfl rfl zq11 (by exact rfl) (by exact rfl) ?_; intro b72); refine yq24 ?_
                refine TS.ways [7] (by kernel_rfl) rfl zq20 ⟨⟨_, rfl, ?_⟩, trivial⟩
                (refine T.appendP (lv := lv70) Wanted.none rfl rfl rfl hv70 (Src.cells (m := 1) (ys := [.slice ad48 r.ks.length cap48, .int .i64 tn]) (.own zq2) rfl rfl) hone (by omega) zq1 ?_; intro v73 lv73 hv73 _; obtain ⟨ad73, cap73, rfl⟩ := hv73.val); refine yq24 ?_
                refine TS.ways [11] (by kernel_rfl) rfl zq20 ⟨⟨_, rfl, ?_⟩, trivial⟩
                (refine T.appendP (lv := lv73) Wanted.none rfl rfl rfl hv73 (RwS.suf g3'.1 hk2).src (one_flatW hDo) (by omega) zq1 ?_; intro v77 lv77 hv77 _; obtain ⟨ad77, cap77, rfl⟩ := hv77.val); refine yq24 ?_
                refine TS.ways [12] (by kernel_rfl) rfl zq20 ⟨⟨_, rfl, ?_⟩, trivial⟩
                refine yq0 ?_; refine yq109 ?_; (exact K ⟨_, lv77⟩ _ _ hv77 zq8 (by repeat (first | exact Sel.refl _ | exact Sel.nil | (refine Sel.cons zq1 ?_) | (refine Sel.app zq1 ?_) | exact Sel.one zq1)))
              · (refine T.buildSlice Wanted.none rfl rfl zq11 (by exact rfl) (by exact rfl) ?_; intro b72); refine yq24 ?_
                refine TS.ways [4] (by kernel_rfl) rfl zq20 ⟨⟨_, rfl, ?_⟩, trivial⟩
                (refine T.appendP (lv := []) Wanted.none rfl rfl rfl (Vec.empty 52 2 _) (RwS.pre g3'.1 hk2).src (one_flatW hTo) (by omega) zq1 ?_; intro v70 lv70 hv70 _; obtain ⟨ad70, cap70, rfl⟩ := hv70.val); refine yq24 ?_
                refine TS.ways [7] (by kernel_rfl) rfl zq20 ⟨⟨_, rfl, ?_⟩, trivial⟩
                (refine T.appendP (lv := lv70) Wanted.none rfl rfl rfl hv70 (Src.cells (m := 1) (ys := [.slice ad48 r.ks.length cap48, .int .i64 tn]) (.own zq2) rfl rfl) hone (by omega) zq1 ?_; intro v73 lv73 hv73 _; obtain ⟨ad73, cap73, rfl⟩ := hv73.val); refine yq24 ?_
                refine TS.ways [11] (by kernel_rfl) rfl zq20 ⟨⟨_, rfl, ?_⟩, trivial⟩
                (refine T.appendP (lv := lv73) Wanted.none rfl rfl rfl hv73 (RwS.suf g3'.1 hk2).src (one_flatW hDo) (by omega) zq1 ?_; intro v77 lv77 hv77 _; obtain ⟨ad77, cap77, rfl⟩ := hv77.val); refine yq24 ?_
                refine TS.ways [12] (by kernel_rfl) rfl zq20 ⟨⟨_, rfl, ?_⟩, trivial⟩
                refine yq0 ?_; refine yq109 ?_; (exact K ⟨_, lv77⟩ _ _ hv77 zq8 (by repeat (first | exact Sel.refl _ | exact Sel.nil | (refine Sel.cons zq1 ?_) | (refine Sel.app zq1 ?_) | exact Sel.one zq1)))
            · (refine T.buildSlice Wanted.none rfl rfl zq11 (by exact rfl) (by exact rfl) ?_; intro b72); refine yq24 ?_
              refine TS.ways [0] (by kernel_rfl) rfl zq20 ⟨⟨_, rfl, ?_⟩, trivial⟩
              (refine T.buildSlice Wanted.none rfl rfl zq11 (by exact rfl) (by exact rfl) ?_; intro b66); refine yq24 ?_
              refine TS.ways [4] (by kernel_rfl) rfl zq20 ⟨⟨_, rfl, ?_⟩, trivial⟩
              (refine T.appendP (lv := []) Wanted.none rfl rfl rfl (Vec.empty 52 2 _) (RwS.pre g3'.1 hk2).src (one_flatW hTo) (by omega) zq1 ?_; intro v70 lv70 hv70 _; obtain ⟨ad70, cap70, rfl⟩ := hv70.val); refine yq24 ?_
              refine TS.ways [7] (by kernel_rfl) rfl zq20 ⟨⟨_, rfl, ?_⟩, trivial⟩
              (refine T.appendP (lv := lv70) Wanted.none rfl rfl rfl hv70 (Src.cells (m := 1) (ys := [.slice ad48 r.ks.length cap48, .int .i64 tn]) (.own zq2) rfl rfl) hone (by omega) zq1 ?_; intro v73 lv73 hv73 _; obtain ⟨ad73, cap73, rfl⟩ := hv73.val); refine yq24 ?_
              refine TS.ways [11] (by kernel_rfl) rfl zq20 ⟨⟨_, rfl, ?_⟩, trivial⟩
              (refine T.appendP (lv := lv73) Wanted.none rfl rfl rfl hv73 (RwS.suf g3'.1 hk2).src (one_flatW hDo) (by omega) zq1 ?_; intro v77 lv77 hv77 _; obtain ⟨ad77, cap77, rfl⟩ := hv77.val); refine yq24 ?_
              refine TS.ways [12] (by kernel_rfl) rfl zq20 ⟨⟨_, rfl, ?_⟩, trivial⟩
              refine yq0 ?_; refine yq109 ?_; (exact K ⟨_, lv77⟩ _ _ hv77 zq8 (by repeat (first | exact Sel.refl _ | exact Sel.nil | (refine Sel.cons zq1 ?_) | (refine Sel.app zq1 ?_) | exact Sel.one zq1)))
        · refine T.loopK [(10, Value.pointer (some { block := b10, off := 0 })), (14, Value.int IntKind.i64 (↑i : Int)), (3, Value.slice aA A.length cA), (13, Value.int IntKind.i64 (↑L.length : Int)), (12, Value.slice (some { block := bx, off := off }) L.length cm), (0, Value.slice (some { block := bx, off := off }) L.length cm)] zq8 (γ := Nat) (fun k => k ≤ A.length ∧ insK (fun a b => ltR (rwK a) (rwK b)) A y0 A.length = insK (fun a b => ltR (rwK a) (rwK b)) A y0 k) (fun k => [(11, .int .i64 (k : Int))]) (fun _ => [(b10, .cells #[.slice ad48 r.ks.length cap48, .int .i64 tn] 52 (0, 0))]) (fun _ => H48) (fun k => k) A.length ⟨Nat.le_refl _, rfl⟩ zq8 (by repeat (first | exact Sel.refl _ | exact Sel.nil | (refine Sel.cons zq1 ?_) | (refine Sel.app zq1 ?_) | exact Sel.one zq1)) rfl ?_
          rintro k ⟨hk1, hk2⟩
          cases k with
          | zero =>
            have hj0 : decide ((0 : Int) < ((0 : Nat) : Int)) = false := rfl
            refine sq ?_; refine sq ?_; refine yq39 ?_; refine yq89 ?_; refine yq4 ?_; refine yq4 ?_; refine yq132 ?_; refine yq193 ?_; refine yq142 ?_
            refine K 0 _ _ ⟨by rw [hk2]; rfl, by omega⟩ ?_ ?_; (focus exact zq8); (focus exact (by repeat (first | exact Sel.refl _ | exact Sel.nil | (refine Sel.cons zq1 ?_) | (refine Sel.app zq1 ?_) | exact Sel.one zq1)))
          | succ j0 =>
            obtain ⟨bo, oo, y, rfl, hiy, hsuby⟩ := RowL.get encRw_len g3'.1 (show j0 < A.length by omega)
            have hyA := List.mem_of_getElem? hiy
            have hyok := g3'.2 y hyA
            obtain ⟨ay, cy, hyv⟩ := hyok.1.len
            unfold encRw at hsuby
            rw [hyv] at hsuby
            have hsb : SubC H48 bo (oo + (((j0 + 1 : Nat) : Int) - 1).toNat * 2) [.slice ay y.ks.length cy, .int .i64 y.n] := by
              rw [show (((j0 + 1 : Nat) : Int) - 1).toNat = j0 by omega]; exact hsuby
            have hbf := less_fn y0 y H48 hy0ok hyok
            unfold rwV at hbf
            rw [hyv, hy0k, hy0n] at hbf
            have hj0 : decide ((0 : Int) < ((j0 + 1 : Nat) : Int)) = true := decide_eq_true (by omega)
            cases hlt : ltR (rwK y0) (rwK y)
            · rw [hlt] at hbf
              have hin1 : insK (fun a b => ltR (rwK a) (rwK b)) A y0 (j0 + 1) = j0 + 1 := by
                rw [insK, hiy]; simp [hlt]
              skip
              (repeat refine sq ?_)
              refine T.regionO [(b10, .cells #[.slice ad48 r.ks.length cap48, .int .i64 tn] 52 (0, 0))] (by kernel_rfl) ?_; refine TO.take 0 rfl (by kernel_rfl) (by kernel_rfl) (by kernel_rfl) (PV.move rfl) Wanted.none rfl rfl ?_; refine TO.take 1 rfl (by kernel_rfl) (by kernel_rfl) (by kernel_rfl) (PV.gtr rfl rfl) Wanted.none rfl rfl ?_; refine TO.take 2 rfl (by kernel_rfl) (by kernel_rfl) (by kernel_rfl) (PV.move rfl) Wanted.none rfl rfl ?_; refine TO.take 3 rfl (by kernel_rfl) (by kernel_rfl) (by kernel_rfl) (PV.loadAll rfl zq0 (by exact rfl)) (Wanted.guard rfl rfl (by assumption)) rfl rfl ?_; refine yq164 ?_; refine TO.take 6 rfl (by kernel_rfl) (by kernel_rfl) (by kernel_rfl) (PV.sub rfl rfl (by omega)) (Wanted.guard rfl rfl (by assumption)) rfl rfl ?_; refine TO.take 7 rfl (by kernel_rfl) (by kernel_rfl) (by kernel_rfl) (PV.indexAddr rfl rfl (by omega)) (Wanted.guard rfl rfl (by assumption)) rfl rfl ?_; refine TO.take 8 rfl (by kernel_rfl) (by kernel_rfl) (by kernel_rfl) (PV.loadSubAll rfl (by assumption) (by exact rfl)) (Wanted.guard rfl rfl (by assumption)) rfl rfl ?_; refine TO.step 9 rfl (by kernel_rfl) zq4 zq19 ?_; refine T.callV (Wanted.guard rfl rfl (by assumption)) rfl rfl (hbf) ?_; refine yq62 ?_; refine TO.take 10 rfl (by kernel_rfl) (by kernel_rfl) (by kernel_rfl) (PV.pickT rfl (by assumption) rfl) Wanted.none rfl rfl ?_; refine TO.done (by kernel_rfl) zq4 zq19 ?_; refine yq142 ?_
              refine K (j0 + 1) _ _ ⟨by rw [hk2, hin1], hk1⟩ ?_ ?_; (focus exact zq8); (focus exact (by repeat (first | exact Sel.refl _ | exact Sel.nil | (refine Sel.cons zq1 ?_) | (refine Sel.app zq1 ?_) | exact Sel.one zq1)))
            · rw [hlt] at hbf
              have hin1 : insK (fun a b => ltR (rwK a) (rwK b)) A y0 (j0 + 1) = insK (fun a b => ltR (rwK a) (rwK b)) A y0 j0 := by
                rw [insK, hiy]; simp [hlt]
              skip
              (repeat refine sq ?_)
              refine T.regionO [(b10, .cells #[.slice ad48 r.ks.length cap48, .int .i64 tn] 52 (0, 0))] (by kernel_rfl) ?_; refine TO.take 0 rfl (by kernel_rfl) (by kernel_rfl) (by kernel_rfl) (PV.move rfl) Wanted.none rfl rfl ?_; refine TO.take 1 rfl (by kernel_rfl) (by kernel_rfl) (by kernel_rfl) (PV.gtr rfl rfl) Wanted.none rfl rfl ?_; refine TO.take 2 rfl (by kernel_rfl) (by kernel_rfl) (by kernel_rfl) (PV.move rfl) Wanted.none rfl rfl ?_; refine TO.take 3 rfl (by kernel_rfl) (by kernel_rfl) (by kernel_rfl) (PV.loadAll rfl zq0 (by exact rfl)) (Wanted.guard rfl rfl (by assumption)) rfl rfl ?_; refine yq164 ?_; refine TO.take 6 rfl (by kernel_rfl) (by kernel_rfl) (by kernel_rfl) (PV.sub rfl rfl (by omega)) (Wanted.guard rfl rfl (by assumption)) rfl rfl ?_; refine TO.take 7 rfl (by kernel_rfl) (by kernel_rfl) (by kernel_rfl) (PV.indexAddr rfl rfl (by omega)) (Wanted.guard rfl rfl (by assumption)) rfl rfl ?_; refine TO.take 8 rfl (by kernel_rfl) (by kernel_rfl) (by kernel_rfl) (PV.loadSubAll rfl (by assumption) (by exact rfl)) (Wanted.guard rfl rfl (by assumption)) rfl rfl ?_; refine TO.step 9 rfl (by kernel_rfl) zq4 zq19 ?_; refine T.callV (Wanted.guard rfl rfl (by assumption)) rfl rfl (hbf) ?_; refine yq62 ?_; refine TO.take 10 rfl (by kernel_rfl) (by kernel_rfl) (by kernel_rfl) (PV.pickT rfl (by assumption) rfl) Wanted.none rfl rfl ?_; refine TO.done (by kernel_rfl) zq4 zq19 ?_; refine T.condT rfl rfl ?_; refine T.skip ?_; refine T.block ?_; refine yq81 ?_; refine yq77 ?_; refine T.blkEnd ?_
              rw [show ((j0 + 1 : Nat) : Int) - 1 = (j0 : Int) by omega]
              exact T.nextP j0 ⟨by omega, hk2.trans hin1⟩ (Nat.lt_succ_self _) zq8 (by repeat (first | exact Sel.refl _ | exact Sel.nil | (refine Sel.cons zq1 ?_) | (refine Sel.app zq1 ?_) | exact Sel.one zq1)) rfl
  · have hil : i = F.length := by omega
    rw [hil, gotR_all] at g4
    refine yq74 ?_; refine yq140 ?_
    exact T.retF (Lv.fin (RV.tmp rfl rfl) ⟨A, g3, g4, g6⟩)
end Go.Proofs.YthacphfjchpoaaaGreatDoor
namespace Go.Proofs.YthacphfjchpoaaaGreatDoor
open Go.RowKit

theorem RwN.old {H H3 H4 : Hp} {v : Value} {A : List Rw} (hl : H.le H3) (h : RwN H3 H4 v A) : RwN H H4 v A :=
  ⟨h.rows.imp fun _ ⟨h1, h2⟩ => ⟨h1, fun p hp => ⟨(h2 p hp).1, Hp.le_none hl (h2 p hp).2.1, (h2 p hp).2.2⟩⟩, fun r hr => (h.keys r hr).imp fun _ ⟨h1, h2, h3⟩ => ⟨h1, h2, Hp.le_none hl h3⟩, h.nd⟩
set_option maxHeartbeats 4000000 in
theorem count_refN (c : Cp) (lb : List ByteArray) (vl : Value) (ms : List Mt) (vm : Value) (gs : List Gp) (vg : Value) (H : Hp) (hc : CpL H c) (hw : CpW c) (hlb : StL H vl lb) (hll : lb.length ≤ 1000) (hm : MtL H vm ms) (hms : ms.length ≤ 1000) (hml : ∀ m ∈ ms, m.ls.length ≤ 1000) (hg : GpL H vg gs) (hgl : gs.length ≤ 1000) :
    Fn Tryz.prog 15 #[cpV c, vl, vm, vg] H (fun u H' => ∃ v A, u = .tuple #[v, .int .i64 (countE c lb ms gs)] ∧ RwL H' v A ∧ (countE c lb ms gs = 0 → A.map rwK = countR c lb ms gs) ∧ (countE c lb ms gs ≠ 0 → A = []) ∧ (countE c lb ms gs = 0 → RwN H H' v A)) := by
  obtain ⟨ab, cb, rfl⟩ := hlb.len
  obtain ⟨ag, cg, rfl⟩ := hg.len
  obtain ⟨am, cm, rfl⟩ := hm.1.len
  unfold cpV
  refine Fn.of_T (vs := [.agg #[c.va, c.vt, c.vx, c.vr, c.vn, c.vh, c.vs], .slice ab lb.length cb, .slice am ms.length cm, .slice ag gs.length cg]) Tryz.func15 rfl rfl fun w => ?_
  have hend : ∀ z : Int, z ≠ 0 → countE c lb ms gs = z → ∀ H' : Hp, ∃ v A, (.tuple #[.slice none 0 0, .int .i64 z] : Value) = .tuple #[v, .int .i64 (countE c lb ms gs)] ∧ RwL H' v A ∧ (countE c lb ms gs = 0 → A.map rwK = countR c lb ms gs) ∧ (countE c lb ms gs ≠ 0 → A = []) ∧ (countE c lb ms gs = 0 → RwN H H' v A) :=
    fun z hz he H' => ⟨_, [], by rw [he], ⟨SlR.empty, by simp⟩, fun h => absurd (he.symm.trans h) hz, fun _ => rfl, fun h => absurd (he.symm.trans h) hz⟩
  by_cases h1 : gs.length < 1
  · refine zs3 ?_; (refine T.box Wanted.none rfl rfl zq15 ?_; intro b4); refine yq55 ?_; refine yq27 ?_; refine yq49 ?_; refine T.setT (d := 22) rfl (by omega) ?_; refine yq8 ?_; refine sp ?_; refine yq157 ?_; refine yq136 ?_
    exact T.retF (Lv.fin (RV.tmp2 rfl rfl rfl) (hend 1 (by omega) (countE_grp (by unfold grpErr; rw [if_pos (.inl h1)]) (by omega)) _))
  by_cases h4 : 4 < gs.length
  · refine zs3 ?_; (refine T.box Wanted.none rfl rfl zq15 ?_; intro b4); refine yq55 ?_; refine yq27 ?_; refine yq49 ?_; refine T.setF (d := 22) rfl (by omega) ?_; refine yq114 ?_; refine gv (PV.gtr rfl rfl) ?_; refine sF ?_; refine yq46 ?_; refine yq136 ?_
    exact T.retF (Lv.fin (RV.tmp2 rfl rfl rfl) (hend 1 (by omega) (countE_grp (by unfold grpErr; rw [if_pos (.inr h4)]) (by omega)) _))
  have h14 : ¬ (gs.length < 1 ∨ 4 < gs.length) := by omega
  refine zs3 ?_; (refine T.box Wanted.none rfl rfl zq15 ?_; intro b4); refine yq55 ?_; refine yq27 ?_; refine yq49 ?_; refine T.setF (d := 22) rfl (by omega) ?_; refine yq114 ?_; refine gv (PV.gtr rfl rfl) ?_; refine sF ?_; refine yq88 ?_; refine yq112 ?_; refine T.loopC [(28, Value.int IntKind.i64 (↑gs.length : Int)), (27, Value.slice ag gs.length cg), (4, Value.pointer (some { block := b4, off := 0 })), (1, Value.slice ab lb.length cb), (2, Value.slice am ms.length cm), (3, Value.slice ag gs.length cg)] zq8 29 gs.length (fun i => (gs.take i).any badG = false) rfl rfl ?_
  rintro i1 ⟨hp0, hp1⟩
  by_cases hp : i1 < gs.length
  · obtain ⟨b, off, g, rfl, hix, hsub⟩ := RowL.get encGp_len hg hp
    unfold encGp at hsub
    have hsh := shape_ref g H
    unfold gpV at hsh
    cases hq : shapeG g
    · have hb : gs.any badG = true := any_inG hix (by unfold badG; rw [hq]; rfl)
      rw [hq] at hsh
      refine yq110 ?_; refine sy fun b11 => ?_; refine yq10 ?_; refine sv (PV.loadAll rfl zq0 (by exact rfl)) ?_; refine T.callV Wanted.none rfl rfl (hsh) ?_; refine sv (PV.not rfl) ?_; refine yq36 ?_; refine yq136 ?_
      exact T.retF (Lv.fin (RV.tmp2 rfl rfl rfl) (hend 1 (by omega) (countE_grp (by unfold grpErr; rw [if_neg h14, if_pos hb]) (by omega)) _))
    · rw [hq] at hsh
      refine yq110 ?_; refine sy fun b11 => ?_; refine yq10 ?_; refine sv (PV.loadAll rfl zq0 (by exact rfl)) ?_; refine T.callV Wanted.none rfl rfl (hsh) ?_; refine sv (PV.not rfl) ?_; refine yq92 ?_; refine yq61 ?_
      exact T.nextC hp (ixI_drop hp1 hix (by unfold badG; rw [hq]; rfl)) rfl zq8 (by repeat (first | exact Sel.refl _ | exact Sel.nil | (refine Sel.cons zq1 ?_) | (refine Sel.app zq1 ?_) | exact Sel.one zq1))
  rw [List.take_of_length_le (by omega)] at hp1
  have hb1 : ¬ gs.any badG = true := by rw [hp1]; simp
  refine yq74 ?_; refine yq112 ?_; refine T.loopC [(38, Value.int IntKind.i64 (↑gs.length : Int)), (37, Value.slice ag gs.length cg), (4, Value.pointer (some { block := b4, off := 0 })), (1, Value.slice ab lb.length cb), (2, Value.slice am ms.length cm), (3, Value.slice ag gs.length cg)] zq8 39 gs.length (fun i => (gs.take i).any (nameG c) = false) rfl rfl ?_
  rintro i2 ⟨hj0, hj1⟩
  by_cases hj : i2 < gs.length
  · obtain ⟨b, off, g, rfl, hix, hsub⟩ := RowL.get encGp_len hg hj
    unfold encGp at hsub
    have hat := attribute_ref c.att c.va g.nm H hc.a hc.la
    have hatr := attI_range c.att g.nm
    by_cases k1 : g.k = 1
    · by_cases a1 : attI c.att g.nm = -1
      · have hb : gs.any (nameG c) = true := any_inG hix (by unfold nameG; rw [decide_eq_true k1, decide_eq_true (by omega)]; rfl)
        refine yq110 ?_; refine sy fun b13 => ?_; refine yq115 ?_; refine yq105 ?_; refine T.setT (d := 46) rfl (by omega) ?_; refine yq161 ?_; refine T.callV (Wanted.guard rfl rfl rfl) rfl rfl (hat) ?_; refine gv (PV.eql rfl rfl) ?_; refine sT ?_; refine yq46 ?_; refine yq136 ?_
        exact T.retF (Lv.fin (RV.tmp2 rfl rfl rfl) (hend 4 (by omega) (countE_grp (by unfold grpErr; rw [if_neg h14, if_neg hb1, if_pos hb]) (by omega)) _))
      · refine yq110 ?_; refine sy fun b13 => ?_; refine yq115 ?_; refine yq105 ?_; refine T.setT (d := 46) rfl (by omega) ?_; refine yq161 ?_; refine T.callV (Wanted.guard rfl rfl rfl) rfl rfl (hat) ?_; refine gv (PV.eql rfl rfl) ?_; refine sT ?_; refine yq88 ?_; refine yq61 ?_
        exact T.nextC hj (ixI_drop hj1 hix (by unfold nameG; rw [decide_eq_false (by omega : ¬ attI c.att g.nm < 0)]; simp)) rfl zq8 (by repeat (first | exact Sel.refl _ | exact Sel.nil | (refine Sel.cons zq1 ?_) | (refine Sel.app zq1 ?_) | exact Sel.one zq1))
    · refine yq110 ?_; refine sy fun b13 => ?_; refine yq115 ?_; refine yq105 ?_; refine T.setF (d := 46) rfl (by omega) ?_; refine yq149 ?_; refine sF ?_; refine yq92 ?_; refine yq61 ?_
      exact T.nextC hj (ixI_drop hj1 hix (by unfold nameG; rw [decide_eq_false k1]; rfl)) rfl zq8 (by repeat (first | exact Sel.refl _ | exact Sel.nil | (refine Sel.cons zq1 ?_) | (refine Sel.app zq1 ?_) | exact Sel.one zq1))
  rw [List.take_of_length_le (by omega)] at hj1
  have hb2 : ¬ gs.any (nameG c) = true := by rw [hj1]; simp
  refine yq74 ?_; refine yq112 ?_; refine T.loopC [(56, Value.int IntKind.i64 (↑gs.length : Int)), (55, Value.slice ag gs.length cg), (4, Value.pointer (some { block := b4, off := 0 })), (1, Value.slice ab lb.length cb), (2, Value.slice am ms.length cm), (3, Value.slice ag gs.length cg)] zq8 57 gs.length (fun i => (gs.take i).any (lostG lb) = false) rfl rfl ?_
  rintro i3 ⟨hm0, hm1⟩
  by_cases hm3 : i3 < gs.length
  · obtain ⟨b, off, g, rfl, hix, hsub⟩ := RowL.get encGp_len hg hm3
    unfold encGp at hsub
    have hco := knownG_fn lb g.lb (.slice ab lb.length cb) H hlb hll
    by_cases k1 : g.k = 1
    · by_cases a1 : g.at_ = 3
      · cases hq : lb.any fun x => decide (x = g.lb)
        · have hb : gs.any (lostG lb) = true := any_inG hix (by unfold lostG; rw [decide_eq_true k1, decide_eq_true a1, hq]; rfl)
          rw [hq] at hco
          refine yq110 ?_; refine sy fun b15 => ?_; refine yq115 ?_; refine yq105 ?_; refine T.setT (d := 64) rfl (by omega) ?_; refine yq29 ?_; refine yq192 ?_; refine T.setT (d := 69) rfl (by omega) ?_; refine yq191 ?_; refine T.callV (Wanted.guard rfl rfl rfl) rfl rfl (hco) ?_; refine gv (PV.not rfl) ?_; refine yq157 ?_; refine yq136 ?_
          exact T.retF (Lv.fin (RV.tmp2 rfl rfl rfl) (hend 16 (by omega) (countE_grp (by unfold grpErr; rw [if_neg h14, if_neg hb1, if_neg hb2, if_pos hb]) (by omega)) _))
        · have hb : lostG lb g = false := by unfold lostG; rw [hq]; simp
          rw [hq] at hco
          refine yq110 ?_; refine sy fun b15 => ?_; refine yq115 ?_; refine yq105 ?_; refine T.setT (d := 64) rfl (by omega) ?_; refine yq29 ?_; refine yq192 ?_; refine T.setT (d := 69) rfl (by omega) ?_; refine yq191 ?_; refine T.callV (Wanted.guard rfl rfl rfl) rfl rfl (hco) ?_; refine gv (PV.not rfl) ?_; refine sT ?_; refine yq92 ?_; refine yq61 ?_
          exact T.nextC hm3 (ixI_drop hm1 hix hb) rfl zq8 (by repeat (first | exact Sel.refl _ | exact Sel.nil | (refine Sel.cons zq1 ?_) | (refine Sel.app zq1 ?_) | exact Sel.one zq1))
      · have hb : lostG lb g = false := by unfold lostG; rw [decide_eq_false a1]; simp
        refine yq110 ?_; refine sy fun b15 => ?_; refine yq115 ?_; refine yq105 ?_; refine T.setT (d := 64) rfl (by omega) ?_; refine yq29 ?_; refine yq192 ?_; refine T.setF (d := 69) rfl (by omega) ?_; refine yq143 ?_; refine sF ?_; refine yq92 ?_; refine yq61 ?_
        exact T.nextC hm3 (ixI_drop hm1 hix hb) rfl zq8 (by repeat (first | exact Sel.refl _ | exact Sel.nil | (refine Sel.cons zq1 ?_) | (refine Sel.app zq1 ?_) | exact Sel.one zq1))
    · have hb : lostG lb g = false := by unfold lostG; rw [decide_eq_false k1]; rfl
      refine yq110 ?_; refine sy fun b15 => ?_; refine yq115 ?_; refine yq105 ?_; refine T.setF (d := 64) rfl (by omega) ?_; refine yq8 ?_; refine sp ?_; refine yq90 ?_; refine yq143 ?_; refine sF ?_; refine yq92 ?_; refine yq61 ?_
      exact T.nextC hm3 (ixI_drop hm1 hix hb) rfl zq8 (by repeat (first | exact Sel.refl _ | exact Sel.nil | (refine Sel.cons zq1 ?_) | (refine Sel.app zq1 ?_) | exact Sel.one zq1))
  rw [List.take_of_length_le (by omega)] at hm1
  have hb3 : ¬ gs.any (lostG lb) = true := by rw [hm1]; simp
  have he : grpErr c lb gs = 0 := by unfold grpErr; rw [if_neg h14, if_neg hb1, if_neg hb2, if_neg hb3]
  have hce : countE c lb ms gs = if ms.all (okM c lb) then 0 else 8 := by unfold countE; rw [if_neg (by omega)]
  refine yq195 ?_; refine yq112 ?_; refine T.loopK [(78, Value.int IntKind.i64 (↑ms.length : Int)), (77, Value.slice am ms.length cm), (4, Value.pointer (some { block := b4, off := 0 })), (1, Value.slice ab lb.length cb), (3, Value.slice ag gs.length cg)] zq8 (γ := CtG) (fun g => g.i ≤ ms.length ∧ H.le g.H ∧ RowV 52 encRw 2 g.v g.lv g.R ∧ (∀ r ∈ g.R, RwOk g.H r) ∧ g.R.map rwK = (ms.take g.i).map (rowK c lb gs) ∧ (ms.take g.i).all (okM c lb) = true) (fun g => [(79, .int .i64 (g.i : Int)), (16, g.v)]) (fun g => g.lv ++ [(b4, .cells #[c.va, c.vt, c.vx, c.vr, c.vn, c.vh, c.vs] 32 (0, 0))]) (fun g => g.H) (fun g => ms.length - g.i) ⟨0, H, .slice none 0 0, [], []⟩ ⟨by simp, Hp.le.refl _, Vec.nil _ _, by simp, by simp, by simp⟩ zq8 (by repeat (first | exact Sel.refl _ | exact Sel.nil | (refine Sel.cons zq1 ?_) | (refine Sel.app zq1 ?_) | exact Sel.one zq1)) rfl ?_
  rintro ⟨i, H2, v, lv, R⟩ ⟨g1, g2, g3, g4, g5, g6⟩
  dsimp only at g1 g2 g3 g4 g5 g6 ⊢
  obtain ⟨adv, capv, rfl⟩ := g3.val
  have hRl : R.length = i := by have := congrArg List.length g5; rw [List.length_map, List.length_map, List.length_take] at this; omega
  by_cases hi : i < ms.length
  · obtain ⟨bx, off, m, rfl, hix, hsub⟩ := RowL.get encM_len (hm.1.mono g2) hi
    have hmm := List.mem_of_getElem? hix
    have hmo := (hm.2 m hmm).mono g2
    have hmll := hml m hmm
    have hfi := fits_ref c m H2 (hc.mono g2) hmo hmll
    have hke := keys_ref c lb (.slice ab lb.length cb) m gs (.slice ag gs.length cg) H2 (hc.mono g2) hw (hlb.mono g2) hmo hmll (hg.mono g2) hgl
    obtain ⟨a1, c1, hmv⟩ := hmo.1.len
    unfold encM at hsub
    rw [hmv] at hsub
    unfold cpV mtV at hfi hke
    rw [hmv] at hfi hke
    cases hf : fitO c m with
    | none =>
      rw [hf] at hfi
      change Fn _ _ _ _ (fun u _ => u = .bool false) at hfi
      have hno := all_no hix (show okM c lb m = false by unfold okM; rw [hf]; rfl)
      rw [if_neg hno] at hce
      refine yq110 ?_; refine sy fun b18 => ?_; refine yq13 ?_; refine sq ?_; refine zs3 ?_; refine yq20 ?_; refine T.callV Wanted.none rfl rfl (hfi) ?_; refine yq107 ?_; refine yq149 ?_; refine yq157 ?_; refine yq136 ?_
      exact T.retF (Lv.fin (RV.tmp2 rfl rfl rfl) (hend 8 (by omega) hce _))
    | some t =>
      rw [hf] at hfi
      change Fn _ _ _ _ (fun u _ => u = .bool true) at hfi
      by_cases hq : m.ls.length = lb.length
      · have hok : okM c lb m = true := by unfold okM; rw [hf, decide_eq_true hq]; rfl
        have hqd : decide ((m.ls.length : Int) ≠ (lb.length : Int)) = false := decide_eq_false (by omega)
        refine yq110 ?_; refine sy fun b18 => ?_; refine yq13 ?_; refine sq ?_; refine zs3 ?_; refine yq20 ?_; refine T.callV Wanted.none rfl rfl (hfi) ?_; refine yq107 ?_; refine yq96 ?_; refine yq114 ?_; refine yq160 ?_; refine so ?_; refine yq108 ?_; refine yq81 ?_; refine sv (PV.loadAll rfl zq0 (by exact rfl)) ?_; refine yq138 ?_; refine sm ?_; (refine T.call Wanted.none rfl rfl hke ?_; intro vk H3 h3 hvk; obtain ⟨ak, ck, rfl⟩ := hvk.len); refine sv (PV.build rfl zq12) ?_; (refine T.buildSlice Wanted.none rfl rfl zq11 (by exact rfl) (by exact rfl) ?_; intro b102)
        (refine T.appendP (lv := lv) Wanted.none rfl rfl rfl g3 (Src.cells (m := 1) (ys := [.slice ak (keysO c lb m gs).length ck, .int .i64 1]) (.own zq2) rfl rfl) (by intro v hv; simp only [List.mem_cons, List.not_mem_nil, or_false] at hv; rcases hv with rfl | rfl <;> rfl) (by omega) zq1 ?_; intro v103 lv103 hv103 _; obtain ⟨ad103, cap103, rfl⟩ := hv103.val); refine yq0 ?_; refine yq61 ?_
        have hkl := keysO_len (c := c) (lb := lb) (m := m) (gs := gs)
        have hks := keysO_size (lb := lb) (m := m) (gs := gs) hc hw
        have hnew : RwOk H3 ⟨.slice ak (keysO c lb m gs).length ck, keysO c lb m gs, 1⟩ := ⟨hvk, by show (keysO c lb m gs).length ≤ 1000; omega, by have := joinL_bound _ hks; show (joinL (keysO c lb m gs)).length ≤ _; have h9 : (keysO c lb m gs).length * 1000100 ≤ 4 * 1000100 := Nat.mul_le_mul_right _ (by omega); omega⟩
        refine T.nextP ⟨i + 1, H3, _, lv103, R ++ [⟨.slice ak (keysO c lb m gs).length ck, keysO c lb m gs, 1⟩]⟩ ⟨by dsimp only; omega, g2.trans h3, RowV.snoc hv103, fun x hx => ?_, by dsimp only; rw [map_snoc hix, List.map_append, g5]; rfl, all_drop g6 hix hok⟩ (by dsimp only; omega) zq8 (by repeat (first | exact Sel.refl _ | exact Sel.nil | (refine Sel.cons zq1 ?_) | (refine Sel.app zq1 ?_) | exact Sel.one zq1)) rfl
        rcases List.mem_append.1 hx with hx | hx
        · exact (g4 x hx).mono h3
        · rw [List.mem_singleton] at hx; subst hx; exact hnew
      · have hno := all_no hix (show okM c lb m = false by unfold okM; rw [hf, decide_eq_false hq]; rfl)
        have hqd : decide ((m.ls.length : Int) ≠ (lb.length : Int)) = true := decide_eq_true (by omega)
        rw [if_neg hno] at hce
        refine yq110 ?_; refine sy fun b18 => ?_; refine yq13 ?_; refine sq ?_; refine zs3 ?_; refine yq20 ?_; refine T.callV Wanted.none rfl rfl (hfi) ?_; refine yq107 ?_; refine yq96 ?_; refine yq114 ?_; refine yq160 ?_; refine so ?_; refine T.condT rfl (by assumption) ?_; refine yq136 ?_
        exact T.retF (Lv.fin (RV.tmp2 rfl rfl rfl) (hend 8 (by omega) hce _))
  · rw [List.take_of_length_le (by omega)] at g5 g6
    rw [if_pos g6] at hce
    have hR0 : ∀ r ∈ R, r.n = 1 := fun r hr => by
      have h1 : rwK r ∈ R.map rwK := List.mem_map_of_mem hr
      rw [g5] at h1
      obtain ⟨m, _, h2⟩ := List.mem_map.1 h1
      have := congrArg Prod.snd h2
      exact this.symm
    have hRk : ∀ r ∈ R, r.ks ≠ [] := fun r hr => by
      have h1 : rwK r ∈ R.map rwK := List.mem_map_of_mem hr
      rw [g5] at h1
      obtain ⟨m, hm, h2⟩ := List.mem_map.1 h1
      have h3 := List.all_eq_true.1 g6 m hm
      unfold okM at h3
      have h4 : r.ks = keysO c lb m gs := (congrArg Prod.fst h2).symm
      cases hf : fitO c m with
      | none => rw [hf] at h3; cases h3
      | some t => rw [h4, keysO_some hf]; intro e; have h5 := congrArg List.length e; rw [List.length_map, List.length_nil] at h5; omega
    refine yq74 ?_; refine T.freezeP (lv := lv) g3 zq1 ?_
    intro H3 h3 hs3
    have hRL : RwL H3 (.slice adv R.length capv) R := ⟨hs3, fun r hr => (g4 r hr).mono h3⟩
    refine yq2 ?_; (refine T.call Wanted.none rfl rfl (sum_refN R _ H3 hRL (by omega) (fun r hr => by rw [hR0 r hr]; omega) hRk) ?_; rintro vs H4 h4 ⟨A, hA, hAs, hAn⟩; obtain ⟨az, cz, rfl⟩ := hA.1.len); refine yq55 ?_
    exact T.retF (Lv.fin (RV.tmp2 rfl rfl rfl) ⟨_, A, by rw [hce], hA, fun _ => by rw [hAs, g5]; rfl, fun h => absurd hce h, fun _ => hAn.old (g2.trans h3)⟩)
end Go.Proofs.YthacphfjchpoaaaGreatDoor
