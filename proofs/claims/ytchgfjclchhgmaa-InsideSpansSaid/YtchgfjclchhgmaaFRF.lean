/- regions: the statement Not, the walk. -/
import Derived.Test.YtchgfjclchhgmaaFRE
namespace Go.Proofs.Ytchgfjclchhgmaa
open Go.RowKit

/-- What a region comes to is named once; the heap may have grown. -/
theorem T.cutH {P : Program} {X : Cx} {e : Env} {l : List (Nat × Obj)} {H : Hp} {D : List Deferred} {k : List It} {a : It} {γ : Type} (ek : Env) (C : γ → Prop) (ch : γ → Env) (lg : γ → List (Nat × Obj)) (Hg : γ → Hp) (K : ∀ g, C g → T P X (ch g ++ ek) (lg g) (Hg g) D k)
    (h : (∀ g e' l' H', C g → Env.Sub (ch g ++ ek) e' → Sel l' (lg g) → Hg g = H' → T P X e' l' H' D k) → T P X e l H D (a :: k)) : T P X e l H D (a :: k) :=
  h fun g _ _ _ hc he hl hH => hH ▸ T.sel hl (T.weak he (List.Sublist.refl _) (K g hc))
theorem fl_block {H : Hp} {b : Nat} {cs : List Value} {t : TypeId} {fz : Nat × Nat} {l : List Fl} (h : H b = some (.cells cs.toArray t fz)) (hx : cs = l.flatMap encFl) : FlL H (.slice (some ⟨b, 0, none⟩) l.length l.length) l := by
  subst hx
  have hl : (l.flatMap encFl).length = l.length * 3 := flat_len encFl_len l
  exact ⟨hl, .inr ⟨b, 0, _, _, _, _, rfl, h, by rw [List.drop_zero, ← hl, List.take_length], Nat.le_refl _⟩⟩
structure NotG where
  H : Hp
  ua : Value
  ub : Value
  A : List Mt
  B : List Mt
theorem not_len {c : Cp} {f : Fl} {m A B : List Mt} (hg : CpG c) (hf : flErr f = 0) (hm : ∀ x ∈ m, inTx c.tx (x.b, x.e))
    (hA : A.map mk3 = (m.filter (passB c [f])).map mk3) (hB : B.map mk3 = (m.filter (passB c [⟨f.op, !f.nt, f.rg⟩])).map mk3) : A.length + B.length = m.length := by
  have h1 := congrArg List.length hA
  have h2 := congrArg List.length hB
  rw [List.length_map, List.length_map] at h1 h2
  have := (not_split hg hf hm).1
  omega
set_option maxHeartbeats 4000000 in
theorem not_fn (l : List Int) (v : Value) (H : Hp) (hv : InL H v l) (hl : l.length ≤ 9223372036854775807) (hr : ∀ x ∈ l, -9223372036854775808 ≤ x ∧ x ≤ 9223372036854775807) :
    Fn Try.prog 7 #[v] H (fun u _ => u = .bool true) := by
  refine Fn.of_T (vs := [v]) Try.func7 rfl rfl fun w => ?_
  refine T.seq ?_
  refine T.region ?_
  refine T.pv (PV.assign rfl) Wanted.none rfl rfl ?_
  refine T.opsNil ?_
  refine T.seq ?_
  refine T.region ?_
  refine T.pv (PV.move rfl) Wanted.none rfl rfl ?_
  refine T.callW (l0 := []) Wanted.none rfl rfl (new_fn l v H hv hl hr) zq1 ?_
  rintro _ _ _ _ ⟨rfl, bt, t, rfl, ht, rfl⟩
  refine T.pv (PV.assign rfl) Wanted.none rfl rfl ?_
  refine T.opsNil ?_
  refine T.seq ?_
  refine T.region ?_
  refine T.pv (PV.move rfl) Wanted.none rfl rfl ?_
  refine T.callW Wanted.none rfl rfl (corpus_fn bt t 6 H ht (by omega)) zq1 ?_
  rintro _ H1 _ hle1 ⟨t1, c, rfl, ht1, hc, hg, hb, rfl⟩
  have hmt := fun t (h : Tp.ok H1 t) => matches_fn bt t c 0 8 H1 h hc hg hb (by omega) (by omega)
  have hap := fun fs m vf vm H (hle : H1.le H) => apply_in c fs m vf vm H (hc.mono hle)
  rw [show ((0 : Nat) : Int) = 0 from rfl] at hmt
  unfold cpV at hmt hap ⊢
  (refine T.alloc Wanted.none rfl ?_; intro b4)
  (refine T.storeA Wanted.none rfl rfl (cp_one hc) (by exact rfl) zq14 zq13 ?_)
  refine T.opsNil ?_
  refine T.seq ?_
  refine T.region ?_
  refine T.pv (PV.move rfl) Wanted.none rfl rfl ?_
  (refine T.callW Wanted.none rfl rfl (filter_fn _ _ _ ?_) zq1 ?_; (focus assumption); rintro _ _ _ _ ⟨rfl, t15, f15, rfl, ht15, hf15, rfl⟩; unfold flV)
  (refine T.alloc Wanted.none rfl ?_; intro b5)
  refine T.storeA Wanted.none rfl rfl zq8 (by exact rfl) zq14 zq13 ?_
  refine T.opsNil ?_
  refine T.seq ?_
  refine T.region ?_
  refine T.pv (PV.loadAll rfl zq0 (by exact rfl)) Wanted.none rfl rfl ?_
  (refine T.alloc Wanted.none rfl ?_; intro b6)
  refine T.storeA Wanted.none rfl rfl zq8 (by exact rfl) zq14 zq13 ?_
  refine T.opsNil ?_
  refine T.seq ?_
  refine T.region ?_
  refine T.pv (PV.fieldAddr rfl) Wanted.none rfl rfl ?_
  refine T.pv (PV.load1 rfl zq0 rfl) Wanted.none rfl rfl ?_
  refine T.pv (PV.not rfl) Wanted.none rfl rfl ?_
  refine T.pv (PV.fieldAddr rfl) Wanted.none rfl rfl ?_
  refine T.store1 Wanted.none rfl rfl rfl zq14 zq13 ?_
  refine T.opsNil ?_
  refine T.seq ?_
  refine T.region ?_
  refine T.pv (PV.move rfl) Wanted.none rfl rfl ?_
  refine T.pv (PV.loadAll rfl zq0 (by exact rfl)) Wanted.none rfl rfl ?_
  (refine T.callW Wanted.none rfl rfl (hmt _ (by assumption)) zq1 ?_; rintro _ H2 _ hle2 ⟨t2, m, ht2, hm, hmn, hfit, rfl⟩; obtain ⟨am, cm, rfl⟩ := hm.1.len)
  refine T.pv (PV.assign rfl) Wanted.none rfl rfl ?_
  refine T.opsNil ?_
  have hfe : flErr f15 = 0 := by
    obtain ⟨k1, k2, k3⟩ := hf15
    exact types_ok (op := f15.op) (nt := f15.nt) k3 ⟨k1, k2⟩
  have hin : ∀ x ∈ m, inTx c.tx (x.b, x.e) := fun x hx => (hfit x hx).1
  have hls : ∀ x ∈ m, x.ls.length ≤ 1000 := fun x hx => by have := (hfit x hx).2.1; omega
  (repeat refine T.seq ?_)
  refine T.cutH [(7, Value.slice am m.length cm), (6, Value.pointer (some { block := b6, off := 0 })), (5, Value.pointer (some { block := b5, off := 0 })), (4, Value.pointer (some { block := b4, off := 0 }))] (γ := NotG) (fun g => H2.le g.H ∧ MtL g.H g.ua g.A ∧ MtL g.H g.ub g.B ∧ g.A.map mk3 = (m.filter (passB c [f15])).map mk3 ∧ g.B.map mk3 = (m.filter (passB c [⟨f15.op, !f15.nt, f15.rg⟩])).map mk3) (fun g => [(8, g.ua), (9, g.ub)]) (fun _ => [(b6, .cells #[.int .i64 f15.op, .bool !f15.nt, .string f15.rg] 38 (0, 0)), (b5, .cells #[.int .i64 f15.op, .bool f15.nt, .string f15.rg] 38 (0, 0)), (b4, .cells #[c.va, c.vt, c.vx, c.vr, c.vn, c.vh, c.vs] 33 (0, 0))]) (fun g => g.H) ?_ fun K => ?_
  rotate_left
  · refine T.regionO [(b6, .cells #[.int .i64 f15.op, .bool !f15.nt, .string f15.rg] 38 (0, 0)), (b5, .cells #[.int .i64 f15.op, .bool f15.nt, .string f15.rg] 38 (0, 0)), (b4, .cells #[c.va, c.vt, c.vx, c.vr, c.vn, c.vh, c.vs] 33 (0, 0))] (by kernel_rfl) ?_
    refine TO.take 0 rfl (by kernel_rfl) (by kernel_rfl) (by kernel_rfl) (PV.loadAll rfl zq0 (by exact rfl)) Wanted.none rfl rfl ?_
    refine TO.take 1 rfl (by kernel_rfl) (by kernel_rfl) (by kernel_rfl) (PV.loadAll rfl zq0 (by exact rfl)) Wanted.none rfl rfl ?_
    refine TO.take 3 rfl (by kernel_rfl) (by kernel_rfl) (by kernel_rfl) (PV.move rfl) Wanted.none rfl rfl ?_
    refine TO.take 5 rfl (by kernel_rfl) (by kernel_rfl) (by kernel_rfl) (PV.loadAll rfl zq0 (by exact rfl)) Wanted.none rfl rfl ?_
    refine TO.take 6 rfl (by kernel_rfl) (by kernel_rfl) (by kernel_rfl) (PV.loadAll rfl zq0 (by exact rfl)) Wanted.none rfl rfl ?_
    refine TO.take 8 rfl (by kernel_rfl) (by kernel_rfl) (by kernel_rfl) (PV.move rfl) Wanted.none rfl rfl ?_
    refine TO.both 2 7 rfl rfl (by kernel_rfl) zq4 zq10 ?_ ?_
    · (refine T.buildSlice Wanted.none rfl rfl zq11 (by exact rfl) (by exact rfl) ?_; intro b26)
      refine T.opsNil ?_
      refine TO.back ?_
      refine TO.both 4 7 rfl rfl (by kernel_rfl) zq4 zq10 ?_ ?_
      · (refine T.freezeB (b := b26) zq1 ?_; intro H28f hle28f hb26; refine T.call Wanted.none rfl rfl (hap [f15] m _ _ H28f (hle2.trans hle28f) (fl_block (l := [f15]) hb26 rfl) (hm.mono hle28f) (by simp) (by omega) hls) ?_; rintro _ H28 hle28 ⟨x28, hx28, he28⟩; have hleA := hle28f.trans hle28)
        refine T.opsNil ?_
        refine TO.back ?_
        refine TO.step 7 rfl (by kernel_rfl) zq4 zq10 ?_
        (refine T.buildSlice Wanted.none rfl rfl zq11 (by exact rfl) (by exact rfl) ?_; intro b31)
        refine T.opsNil ?_
        refine TO.back ?_
        refine TO.step 9 rfl (by kernel_rfl) zq4 zq10 ?_
        (refine T.freezeB (b := b31) zq1 ?_; intro H33f hle33f hb31; refine T.call Wanted.none rfl rfl (hap [⟨f15.op, !f15.nt, f15.rg⟩] m _ _ H33f (((hle2.trans hle28f).trans hle28).trans hle33f) (fl_block (l := [⟨f15.op, !f15.nt, f15.rg⟩]) hb31 rfl) (hm.mono ((hle28f.trans hle28).trans hle33f)) (by simp) (by omega) hls) ?_; rintro _ H33 hle33 ⟨x33, hx33, he33⟩; have hleB := hleA.trans (hle33f.trans hle33))
        refine T.opsNil ?_
        refine TO.back ?_
        refine TO.take 10 rfl (by kernel_rfl) (by kernel_rfl) (by kernel_rfl) (PV.assign rfl) Wanted.none rfl rfl ?_
        refine TO.take 11 rfl (by kernel_rfl) (by kernel_rfl) (by kernel_rfl) (PV.assign rfl) Wanted.none rfl rfl ?_
        refine TO.done (by kernel_rfl) zq4 zq10 ?_
        (exact K ⟨H33, _, _, x28, x33⟩ _ _ _ ⟨(hle28f.trans hle28).trans (hle33f.trans hle33), hx28.mono (hle33f.trans hle33), hx33, he28, he33⟩ zq8 (by repeat (first | exact Sel.refl _ | exact Sel.nil | (refine Sel.cons zq1 ?_) | (refine Sel.app zq1 ?_) | exact Sel.one zq1)) rfl)
      · (refine T.buildSlice Wanted.none rfl rfl zq11 (by exact rfl) (by exact rfl) ?_; intro b31)
        refine T.opsNil ?_
        refine TO.back ?_
        refine TO.step 4 rfl (by kernel_rfl) zq4 zq10 ?_
        (refine T.freezeB (b := b26) zq1 ?_; intro H28f hle28f hb26; refine T.call Wanted.none rfl rfl (hap [f15] m _ _ H28f (hle2.trans hle28f) (fl_block (l := [f15]) hb26 rfl) (hm.mono hle28f) (by simp) (by omega) hls) ?_; rintro _ H28 hle28 ⟨x28, hx28, he28⟩; have hleA := hle28f.trans hle28)
        refine T.opsNil ?_
        refine TO.back ?_
        refine TO.step 9 rfl (by kernel_rfl) zq4 zq10 ?_
        (refine T.freezeB (b := b31) zq1 ?_; intro H33f hle33f hb31; refine T.call Wanted.none rfl rfl (hap [⟨f15.op, !f15.nt, f15.rg⟩] m _ _ H33f (((hle2.trans hle28f).trans hle28).trans hle33f) (fl_block (l := [⟨f15.op, !f15.nt, f15.rg⟩]) hb31 rfl) (hm.mono ((hle28f.trans hle28).trans hle33f)) (by simp) (by omega) hls) ?_; rintro _ H33 hle33 ⟨x33, hx33, he33⟩; have hleB := hleA.trans (hle33f.trans hle33))
        refine T.opsNil ?_
        refine TO.back ?_
        refine TO.take 10 rfl (by kernel_rfl) (by kernel_rfl) (by kernel_rfl) (PV.assign rfl) Wanted.none rfl rfl ?_
        refine TO.take 11 rfl (by kernel_rfl) (by kernel_rfl) (by kernel_rfl) (PV.assign rfl) Wanted.none rfl rfl ?_
        refine TO.done (by kernel_rfl) zq4 zq10 ?_
        (exact K ⟨H33, _, _, x28, x33⟩ _ _ _ ⟨(hle28f.trans hle28).trans (hle33f.trans hle33), hx28.mono (hle33f.trans hle33), hx33, he28, he33⟩ zq8 (by repeat (first | exact Sel.refl _ | exact Sel.nil | (refine Sel.cons zq1 ?_) | (refine Sel.app zq1 ?_) | exact Sel.one zq1)) rfl)
    · (refine T.buildSlice Wanted.none rfl rfl zq11 (by exact rfl) (by exact rfl) ?_; intro b31)
      refine T.opsNil ?_
      refine TO.back ?_
      refine TO.step 2 rfl (by kernel_rfl) zq4 zq10 ?_
      (refine T.buildSlice Wanted.none rfl rfl zq11 (by exact rfl) (by exact rfl) ?_; intro b26)
      refine T.opsNil ?_
      refine TO.back ?_
      refine TO.step 4 rfl (by kernel_rfl) zq4 zq10 ?_
      (refine T.freezeB (b := b26) zq1 ?_; intro H28f hle28f hb26; refine T.call Wanted.none rfl rfl (hap [f15] m _ _ H28f (hle2.trans hle28f) (fl_block (l := [f15]) hb26 rfl) (hm.mono hle28f) (by simp) (by omega) hls) ?_; rintro _ H28 hle28 ⟨x28, hx28, he28⟩; have hleA := hle28f.trans hle28)
      refine T.opsNil ?_
      refine TO.back ?_
      refine TO.step 9 rfl (by kernel_rfl) zq4 zq10 ?_
      (refine T.freezeB (b := b31) zq1 ?_; intro H33f hle33f hb31; refine T.call Wanted.none rfl rfl (hap [⟨f15.op, !f15.nt, f15.rg⟩] m _ _ H33f (((hle2.trans hle28f).trans hle28).trans hle33f) (fl_block (l := [⟨f15.op, !f15.nt, f15.rg⟩]) hb31 rfl) (hm.mono ((hle28f.trans hle28).trans hle33f)) (by simp) (by omega) hls) ?_; rintro _ H33 hle33 ⟨x33, hx33, he33⟩; have hleB := hleA.trans (hle33f.trans hle33))
      refine T.opsNil ?_
      refine TO.back ?_
      refine TO.take 10 rfl (by kernel_rfl) (by kernel_rfl) (by kernel_rfl) (PV.assign rfl) Wanted.none rfl rfl ?_
      refine TO.take 11 rfl (by kernel_rfl) (by kernel_rfl) (by kernel_rfl) (PV.assign rfl) Wanted.none rfl rfl ?_
      refine TO.done (by kernel_rfl) zq4 zq10 ?_
      (exact K ⟨H33, _, _, x28, x33⟩ _ _ _ ⟨(hle28f.trans hle28).trans (hle33f.trans hle33), hx28.mono (hle33f.trans hle33), hx33, he28, he33⟩ zq8 (by repeat (first | exact Sel.refl _ | exact Sel.nil | (refine Sel.cons zq1 ?_) | (refine Sel.app zq1 ?_) | exact Sel.one zq1)) rfl)
  rintro ⟨H3, ua, ub, A, B⟩ ⟨g1, g2, g3, g4, g5⟩
  dsimp only at g1 g2 g3 g4 g5 ⊢
  have hsum := not_len hg hfe hin g4 g5
  obtain ⟨aa, ca, rfl⟩ := g2.1.len
  obtain ⟨ab, cb, rfl⟩ := g3.1.len
  have hd : decide ((A.length : Int) + B.length = m.length) = true := decide_eq_true (by omega)
  refine T.seq ?_
  refine T.region ?_
  refine T.pv (PV.move rfl) Wanted.none rfl rfl ?_
  refine T.pv (PV.lenSl rfl) Wanted.none rfl rfl ?_
  refine T.pv (PV.move rfl) Wanted.none rfl rfl ?_
  refine T.pv (PV.lenSl rfl) Wanted.none rfl rfl ?_
  refine T.pv (PV.add rfl rfl (by omega)) Wanted.none rfl rfl ?_
  refine T.pv (PV.move rfl) Wanted.none rfl rfl ?_
  refine T.pv (PV.lenSl rfl) Wanted.none rfl rfl ?_
  refine T.pv (PV.eql rfl rfl) Wanted.none rfl rfl ?_
  refine T.pv (PV.move rfl) Wanted.none rfl rfl ?_
  refine T.pv (PV.loadAll rfl zq0 (by exact rfl)) (Wanted.guard rfl rfl (by assumption)) rfl rfl ?_
  refine T.pv (PV.loadAll rfl zq0 (by exact rfl)) (Wanted.guard rfl rfl (by assumption)) rfl rfl ?_
  refine T.pv (PV.loadAll rfl zq0 (by exact rfl)) (Wanted.guard rfl rfl (by assumption)) rfl rfl ?_
  (refine T.buildSlice (Wanted.guard rfl rfl (by assumption)) rfl rfl zq11 (by exact rfl) (by exact rfl) ?_; intro b46)
  refine T.pv (PV.move rfl) (Wanted.guard rfl rfl (by assumption)) rfl rfl ?_
  (refine T.freezeB (b := b46) zq1 ?_; intro H48f hle48f hb46; refine T.call (Wanted.guard rfl rfl (by assumption)) rfl rfl (hap [f15, ⟨f15.op, !f15.nt, f15.rg⟩] m _ _ H48f ((hle2.trans g1).trans hle48f) (fl_block (l := [f15, ⟨f15.op, !f15.nt, f15.rg⟩]) hb46 rfl) (hm.mono (g1.trans hle48f)) (by simp) (by omega) hls) ?_; rintro _ H48 hle48 ⟨x48, hx48, he48⟩; rw [(not_split hg hfe hin).2] at he48; have hx0 : x48 = [] := List.map_eq_nil_iff.1 he48; subst hx0; obtain ⟨a48, c48, rfl⟩ := hx48.1.len; have kn := known_fn H48)
  refine T.pv (PV.lenSl rfl) (Wanted.guard rfl rfl (by assumption)) rfl rfl ?_
  refine T.pv (PV.eql rfl rfl) (Wanted.guard rfl rfl (by assumption)) rfl rfl ?_
  refine T.pv (PV.pickT rfl (by assumption) rfl) Wanted.none rfl rfl ?_
  refine T.pv (PV.move rfl) Wanted.none rfl rfl ?_
  refine T.callV (Wanted.guard rfl rfl rfl) rfl rfl (kn) ?_
  refine T.pv (PV.pickT rfl rfl rfl) Wanted.none rfl rfl ?_
  refine T.pv (PV.assign rfl) Wanted.none rfl rfl ?_
  refine T.opsNil ?_
  exact T.retF (Lv.fin (RV.tmp rfl rfl) rfl)
end Go.Proofs.Ytchgfjclchhgmaa
