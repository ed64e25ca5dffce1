/- lines: the statement Ordered. -/
import Derived.Test.YtlklcjpmfjmenaaFKO
namespace Go.Proofs.Ytlklcjpmfjmenaa
open Go.RowKit

theorem KyL_two {H : Hp} {b : Nat} {k1 k2 : Ky} (h : H b = some (.cells (encKy k1 ++ encKy k2).toArray 35 (0, 0))) : KyL H (.slice (some ⟨b, 0, none⟩) 2 2) [k1, k2] :=
  ⟨rfl, .inr ⟨b, 0, 2, _, _, _, rfl, h, rfl, Nat.le_refl 2⟩⟩
/-- the first key in whose values two matches differ decides -/
theorem cmpF_first {z : Int} {f g : Ky → ByteArray} : ∀ {ks : List Ky} {j : Nat} {k : Ky}, ks[j]? = some k → (∀ i k', i < j → ks[i]? = some k' → f k' = g k') → f k ≠ g k → cmpF z f g ks = if k.fall then - cmpS (f k) (g k) else cmpS (f k) (g k)
  | [], _, _, h, _, _ => by simp at h
  | k0 :: ks, 0, k, h, _, hn => by
    obtain rfl : k0 = k := by simpa using h
    rw [cmpF, if_pos (fun h => hn (cmpS_eq h))]
  | k0 :: ks, j + 1, k, h, he, hn => by
    have h0 := he 0 k0 (by omega) rfl
    rw [cmpF, h0, cmpS_self, if_neg (by simp)]
    exact cmpF_first (j := j) (by simpa using h) (fun i k' hi hk => he (i + 1) k' (by omega) (by simpa using hk)) hn
theorem cmpF_none {z : Int} {f g : Ky → ByteArray} : ∀ {ks : List Ky}, (∀ k ∈ ks, f k = g k) → cmpF z f g ks = z
  | [], _ => rfl
  | k0 :: ks, he => by
    rw [cmpF, he k0 (List.mem_cons_self ..), cmpS_self, if_neg (by simp)]
    exact cmpF_none fun k hk => he k (List.mem_cons_of_mem _ hk)
theorem T.cutH {P : Program} {X : Cx} {e : Env} {l : List (Nat × Obj)} {H : Hp} {D : List Deferred} {k : List It} {a : It} {γ : Type} (ek : Env) (C : γ → Prop) (ch : γ → Env) (lg : γ → List (Nat × Obj)) (Hg : γ → Hp) (K : ∀ g, C g → T P X (ch g ++ ek) (lg g) (Hg g) D k)
    (h : (∀ g e' l' H', C g → Env.Sub (ch g ++ ek) e' → Sel l' (lg g) → Hg g = H' → T P X e' l' H' D k) → T P X e l H D (a :: k)) : T P X e l H D (a :: k) :=
  h fun g _ _ _ hc he hl hH => hH ▸ T.sel hl (T.weak he (List.Sublist.refl _) (K g hc))
structure OiG where
  i : Nat
  H : Hp
structure OrG where
  j : Nat
  H : Hp
  d : Bool
set_option maxHeartbeats 4000000 in
theorem ordered_law (l n : List Int) (v u : Value) (H : Hp) (hv : InL H v l) (hl : l.length ≤ 9223372036854775807) (hr : ∀ x ∈ l, -9223372036854775808 ≤ x ∧ x ≤ 9223372036854775807) (hv2 : InL H u n) (hl2 : n.length ≤ 9223372036854775807) (hr2 : ∀ x ∈ n, -9223372036854775808 ≤ x ∧ x ≤ 9223372036854775807) :
    Fn Try.prog 5 #[v, u] H (fun u _ => u = .bool true) := by
  refine Fn.of_T (vs := [v, u]) Try.func5 rfl rfl fun w => ?_
  refine sq ?_
  refine sr ?_
  refine sa ?_
  refine so ?_
  refine sq ?_
  refine sr ?_
  refine sm ?_
  refine T.callW (l0 := []) Wanted.none rfl rfl (new_fn l v H hv hl hr) zq1 ?_
  rintro _ _ _ _ ⟨rfl, bt, t, rfl, ht0, rfl⟩
  refine sa ?_
  refine so ?_
  refine sq ?_
  refine sr ?_
  refine sm ?_
  refine T.callW Wanted.none rfl rfl (corpus_fn bt t 7 H ht0 (by omega)) zq1 ?_
  rintro _ H1 _ hle1 ⟨t1, c, rfl, ht1, hc, hg, hb, rfl⟩
  have hw := hg.wide
  have hmt := matches_fn bt t1 c 1 9 H1 ht1 hc hg hb (by omega) (by omega)
  rw [show ((1 : Nat) : Int) = 1 from rfl] at hmt
  unfold cpV at hmt ⊢
  refine sy fun b6 => ?_
  (refine T.storeA Wanted.none rfl rfl (cp_one hc) (by exact rfl) zq14 zq13 ?_)
  refine so ?_
  refine sq ?_
  refine sr ?_
  refine sm ?_
  refine sv (PV.loadAll rfl zq0 (by exact rfl)) ?_
  (refine T.callW Wanted.none rfl rfl hmt zq1 ?_; rintro _ H2 _ hle2 ⟨t3, L, ht3, hL, hLn, hfit, rfl⟩; obtain ⟨aL, cL, rfl⟩ := hL.1.len)
  refine sa ?_
  refine so ?_
  have hLl : L.length ≤ 9 := by omega
  have hls : ∀ m ∈ L, m.ls.length ≤ 1000 := fun m hm => by have := (hfit m hm).2.1; omega
  have hfM : ∀ m ∈ L, fitsM c [bs [120]] m = true := fun m hm => fits_fitsM hg (hfit m hm) _ rfl
  refine sq ?_
  refine sr ?_
  refine sm ?_
  (refine T.callW (l0 := []) Wanted.none rfl rfl (new_fn n u H2 (hv2.mono (hle1.trans hle2)) hl2 hr2) zq1 ?_; rintro _ _ _ _ ⟨rfl, bt2, t4, rfl, ht4, rfl⟩)
  refine sa ?_
  refine so ?_
  refine sq ?_
  refine sr ?_
  refine sm ?_
  (refine T.callW Wanted.none rfl rfl (key_fn _ _ _ ?_) zq1 ?_; (focus assumption); rintro _ _ _ _ ⟨rfl, k28, t28, rfl, hk28, ht28, rfl⟩; unfold kyV)
  refine sm ?_
  (refine T.callW Wanted.none rfl rfl (key_fn _ _ _ ?_) zq1 ?_; (focus assumption); rintro _ _ _ _ ⟨rfl, k30, t30, rfl, hk30, ht30, rfl⟩; unfold kyV)
  (refine T.buildSlice Wanted.none rfl rfl zq11 (by exact rfl) (by exact rfl) ?_; intro b31)
  refine sa ?_
  refine so ?_
  refine T.freezeB (b := b31) zq1 ?_
  intro H4 h24 hk4
  have hK4 := KyL_two (k1 := k28) (k2 := k30) hk4
  have hkk : keyErr c [bs [120]] [k28, k30] = 0 := key_ok hg (by intro x hx; simp only [List.mem_cons, List.not_mem_nil, or_false] at hx; rcases hx with rfl | rfl <;> assumption) (by simp)
  have hc4 := hc.mono (hle2.trans h24)
  have s1 := fun H' vl (h : H4.le H') (hl : StL H' vl [bs [120]]) => sort_ok (hc4.mono h) hw hl (hL.mono (h24.trans h)) (hK4.mono h) (by simp) (by omega) (by simp) hls hkk hfM
  unfold cpV at s1
  (repeat refine sq ?_)
  refine T.regionO [(b6, .cells #[c.va, c.vt, c.vx, c.vr, c.vn, c.vh, c.vs] 32 (0, 0))] (by kernel_rfl) ?_
  refine TO.take 0 rfl (by kernel_rfl) (by kernel_rfl) (by kernel_rfl) (PV.loadAll rfl zq0 (by exact rfl)) Wanted.none rfl rfl ?_
  refine TO.take 2 rfl (by kernel_rfl) (by kernel_rfl) (by kernel_rfl) (PV.move rfl) Wanted.none rfl rfl ?_
  refine TO.take 3 rfl (by kernel_rfl) (by kernel_rfl) (by kernel_rfl) (PV.move rfl) Wanted.none rfl rfl ?_
  refine TO.step 1 rfl (by kernel_rfl) zq4 zq17 ?_
  (refine T.call Wanted.none rfl rfl (labels_fn _) ?_; intro v34 H34 hle34 hv34; obtain ⟨ad34, cap34, rfl⟩ := hv34.len)
  refine so ?_
  refine TO.back ?_
  refine TO.step 4 rfl (by kernel_rfl) zq4 zq17 ?_
  (refine T.call Wanted.none rfl rfl (s1 _ _ zq17 (hv34.mono zq17)) ?_; rintro _ H5 h45 ⟨_, S, rfl, hS, qa⟩; obtain ⟨aS, cS, rfl⟩ := hS.1.len; have h4a := hle34.trans h45)
  refine so ?_
  refine TO.back ?_
  refine TO.take 5 rfl (by kernel_rfl) (by kernel_rfl) (by kernel_rfl) (PV.move rfl) Wanted.none rfl rfl ?_
  refine TO.take 6 rfl (by kernel_rfl) (by kernel_rfl) (by kernel_rfl) (PV.extract rfl rfl) Wanted.none rfl rfl ?_
  refine TO.take 7 rfl (by kernel_rfl) (by kernel_rfl) (by kernel_rfl) (PV.extract rfl rfl) Wanted.none rfl rfl ?_
  refine TO.take 8 rfl (by kernel_rfl) (by kernel_rfl) (by kernel_rfl) (PV.assign rfl) Wanted.none rfl rfl ?_
  refine TO.take 9 rfl (by kernel_rfl) (by kernel_rfl) (by kernel_rfl) (PV.assign rfl) Wanted.none rfl rfl ?_
  refine TO.done (by kernel_rfl) zq4 zq17 ?_
  refine sq ?_
  refine sq ?_
  refine sr ?_
  refine sm ?_
  refine sv (PV.neq rfl rfl) ?_
  refine so ?_
  refine T.condF rfl rfl ?_
  refine T.skip ?_
  refine sq ?_
  refine sq ?_
  refine sr ?_
  refine sa ?_
  refine so ?_
  refine T.block ?_
  have hps : (S.map mk3).Pairwise (fun a b => ltT c [bs [120]] [k28, k30] b a = false) := by rw [qa]; exact sortK_sorted (ltT_ord c [bs [120]] [k28, k30]) _
  have hSl : S.length = L.length := by have := congrArg List.length qa; rw [List.length_map, sortT, sortK_length, List.length_map] at this; exact this
  have hSls : ∀ m ∈ S, m.ls.length ≤ 1000 := fun m hm => by
    obtain ⟨m', hm', e⟩ := mem_mk3 (f := sortT c [bs [120]] [k28, k30]) (fun x => sortK_perm _ x) qa hm
    have e2 := congrArg (fun t => t.2.2.length) e
    have := hls m' hm'
    simp only [mk3] at e2
    omega
  have hcmp : ∀ (i j : Nat) a b, i < j → S[i]? = some a → S[j]? = some b → cmpF (cmpL (keyM a) (keyM b)) (valO c [bs [120]] a) (valO c [bs [120]] b) [k28, k30] ≤ 0 := by
    intro i j a b hij ha hb
    obtain ⟨h1, e1⟩ := List.getElem?_eq_some_iff.1 ha
    obtain ⟨h2, e2⟩ := List.getElem?_eq_some_iff.1 hb
    have := List.pairwise_iff_getElem.1 hps i j (by rw [List.length_map]; exact h1) (by rw [List.length_map]; exact h2) hij
    rw [List.getElem_map, List.getElem_map, e1, e2] at this
    simp only [ltT, decide_eq_false_iff_not] at this
    have h3 := cmpT_F c [bs [120]] [k28, k30] (mk3 a) (mk3 b)
    have h4 := cmpT_neg c [bs [120]] [k28, k30] (mk3 a) (mk3 b)
    have h5 : cmpF (cmpL (keyM (unK (mk3 a))) (keyM (unK (mk3 b)))) (valO c [bs [120]] (unK (mk3 a))) (valO c [bs [120]] (unK (mk3 b))) [k28, k30] = cmpF (cmpL (keyM a) (keyM b)) (valO c [bs [120]] a) (valO c [bs [120]] b) [k28, k30] := rfl
    omega
  have hcS := hc4.mono h4a
  have hKS := hK4.mono h4a
  clear s1
  refine T.loopK [(10, Value.slice aS S.length cS), (9, Value.slice (some { block := b31, off := 0 }) 2 2), (6, Value.pointer (some { block := b6, off := 0 }))] zq8 (γ := OiG) (fun g => 1 ≤ g.i ∧ H5.le g.H) (fun g => [(12, .int .i64 (g.i : Int))]) (fun _ => [(b6, .cells #[c.va, c.vt, c.vx, c.vr, c.vn, c.vh, c.vs] 32 (0, 0))]) (fun g => g.H) (fun g => S.length - g.i) ⟨1, H5⟩ ⟨Nat.le_refl 1, Hp.le.refl _⟩ zq8 (by repeat (first | exact Sel.refl _ | exact Sel.nil | (refine Sel.cons zq1 ?_) | (refine Sel.app zq1 ?_) | exact Sel.one zq1)) rfl ?_
  rintro ⟨i, H6⟩ ⟨gi1, gi2⟩
  dsimp only at gi1 gi2 ⊢
  by_cases hi : i < S.length
  · obtain ⟨j, rfl⟩ : ∃ j, i = j + 1 := ⟨i - 1, by omega⟩
    obtain ⟨bx, off, a, rfl, hax, hsuba⟩ := RowL.get encM_len (hS.1.mono gi2) (i := (((j + 1 : Nat) : Int) - 1).toNat) (by omega)
    obtain ⟨bx2, off2, b, e12, hbx, hsubb⟩ := RowL.get encM_len (hS.1.mono gi2) (i := j + 1) hi
    injection e12 with e12
    injection e12 with e1 e2 e3
    subst e1 e2
    have hle := hcmp _ _ a b (by omega) hax hbx
    have hma := List.mem_of_getElem? hax
    have hmb := List.mem_of_getElem? hbx
    have hla := (hS.2 a hma).mono gi2
    have hlb := (hS.2 b hmb).mono gi2
    obtain ⟨aa2, ca2, hav⟩ := hla.1.len
    obtain ⟨ab2, cb2, hbv⟩ := hlb.1.len
    unfold encM at hsuba hsubb
    rw [hav] at hsuba
    rw [hbv] at hsubb
    refine sq ?_
    refine sq ?_
    refine sr ?_
    refine sm ?_
    refine sm ?_
    refine sv (PV.lenSl rfl) ?_
    refine sv (PV.lss rfl rfl) ?_
    refine so ?_
    refine sc rfl (by omega) ?_
    refine T.skip ?_
    refine sq ?_
    refine T.block ?_
    refine sq ?_
    refine sr ?_
    refine sa ?_
    refine so ?_
    refine sq ?_
    refine sq ?_
    refine sr ?_
    refine sm ?_
    refine sv (PV.lenSl rfl) ?_
    refine sm ?_
    refine so ?_
    refine T.block ?_
    refine T.loopK [(49, Value.int IntKind.i64 (↑2 : Int)), (48, Value.slice (some { block := b31, off := 0 }) 2 2), (12, Value.int IntKind.i64 (↑(j + 1) : Int)), (10, Value.slice (some { block := bx, off := off }) S.length cS), (9, Value.slice (some { block := b31, off := 0 }) 2 2), (6, Value.pointer (some { block := b6, off := 0 }))] zq8 (γ := OrG) (fun g => g.j ≤ 2 ∧ H6.le g.H ∧ (g.d = false → ∀ i k, i < g.j → [k28, k30][i]? = some k → valO c [bs [120]] a k = valO c [bs [120]] b k)) (fun g => [(50, .int .i64 (g.j : Int)), (13, .bool g.d)]) (fun _ => [(b6, .cells #[c.va, c.vt, c.vx, c.vr, c.vn, c.vh, c.vs] 32 (0, 0))]) (fun g => g.H) (fun g => 2 - g.j) ⟨0, H6, false⟩ ⟨by simp, Hp.le.refl _, fun _ i k hi => absurd hi (by simp)⟩ zq8 (by repeat (first | exact Sel.refl _ | exact Sel.nil | (refine Sel.cons zq1 ?_) | (refine Sel.app zq1 ?_) | exact Sel.one zq1)) rfl ?_
    rintro ⟨y, H7, d⟩ ⟨d1, d2, d3⟩
    dsimp only at d1 d2 d3 ⊢
    have h57 := gi2.trans d2
    by_cases hy : y < 2
    · obtain ⟨b8, off8, k, hke, hkx, hsubk⟩ := RowL.get encKy_len (hKS.mono h57) (i := y) hy
      injection hke with hke
      injection hke with e1 e2 e3
      subst e1 e2
      unfold encKy at hsubk
      have va := fun H' vl (h : H7.le H') (hl : StL H' vl [bs [120]]) => value_in c [bs [120]] vl a k H' (hcS.mono (h57.trans h)) hw hl (hla.mono (d2.trans h)) (hSls a hma)
      have vb := fun H' vl (h : H7.le H') (hl : StL H' vl [bs [120]]) => value_in c [bs [120]] vl b k H' (hcS.mono (h57.trans h)) hw hl (hlb.mono (d2.trans h)) (hSls b hmb)
      unfold cpV mtV kyV at va vb
      simp only [hav] at va
      simp only [hbv] at vb
      have hsuba := hsuba.mono d2
      have hsubb := hsubb.mono d2
      refine sq ?_
      refine sr ?_
      refine sv (PV.lss rfl rfl) ?_
      refine so ?_
      refine sq ?_
      refine sc rfl (by omega) ?_
      refine T.skip ?_
      refine sq ?_
      refine T.block ?_
      refine sq ?_
      refine sr ?_
      refine sv (PV.indexAddr rfl rfl (by omega)) ?_
      refine sv (PV.loadSubAll rfl (by assumption) (by exact rfl)) ?_
      refine sy fun b15 => ?_
      refine T.storeA Wanted.none rfl rfl zq8 (by exact rfl) zq14 zq13 ?_
      refine so ?_
      (repeat refine sq ?_)
      refine T.cutH [(15, Value.pointer (some { block := b15, off := 0 })), (50, Value.int IntKind.i64 (↑y : Int)), (13, Value.bool d), (49, Value.int IntKind.i64 2), (48, Value.slice (some { block := b31, off := 0 }) 2 2), (12, Value.int IntKind.i64 (↑(j + 1) : Int)), (10, Value.slice (some { block := bx, off := off }) S.length cS), (9, Value.slice (some { block := b31, off := 0 }) 2 2), (6, Value.pointer (some { block := b6, off := 0 }))] (γ := Hp) (fun g => H7.le g) (fun _ => [(16, .string (valO c [bs [120]] a k)), (17, .string (valO c [bs [120]] b k))]) (fun _ => [(b15, .cells #[.int .i64 k.at_, .int .i64 k.off, .string k.lb, .string k.nm, .bool k.fold, .bool k.back, .bool k.fall] 35 (0, 0)), (b6, .cells #[c.va, c.vt, c.vx, c.vr, c.vn, c.vh, c.vs] 32 (0, 0))]) (fun g => g) ?_ fun K => ?_
      · intro H8 h78
        by_cases hpq : valO c [bs [120]] a k = valO c [bs [120]] b k
        · have hne : decide (valO c [bs [120]] a k ≠ valO c [bs [120]] b k) = false := by simp [hpq]
          refine sq ?_
          refine sr ?_
          refine sm ?_
          refine sm ?_
          refine sv (PV.sneq rfl rfl) ?_
          refine sm ?_
          refine T.pass (Unwanted.guard rfl rfl (by assumption)) rfl rfl ?_
          refine T.pass (Unwanted.guard rfl rfl (by assumption)) rfl rfl ?_
          refine sv (PV.pickF rfl (by assumption) rfl) ?_
          refine so ?_
          refine T.condF rfl rfl ?_
          refine T.skip ?_
          refine T.blkEnd ?_
          refine sr ?_
          refine sv (PV.add rfl rfl (by omega)) ?_
          refine sm ?_
          refine so ?_
          refine T.nextP ⟨y + 1, H8, d⟩ ⟨by dsimp only; omega, d2.trans h78, fun hd i k' hi hk' => ?_⟩ (by dsimp only; omega) zq8 (by repeat (first | exact Sel.refl _ | exact Sel.nil | (refine Sel.cons zq1 ?_) | (refine Sel.app zq1 ?_) | exact Sel.one zq1)) rfl
          dsimp only at hi hd
          rcases Nat.lt_or_eq_of_le (Nat.le_of_lt_succ hi) with h | h
          · exact d3 hd i k' h hk'
          · subst h; rw [hkx] at hk'; obtain rfl := Option.some.inj hk'; exact hpq
        · have hne : decide (valO c [bs [120]] a k ≠ valO c [bs [120]] b k) = true := by simp [hpq]
          cases d with
          | true =>
            refine sq ?_
            refine sr ?_
            refine sm ?_
            refine sm ?_
            refine sv (PV.sneq rfl rfl) ?_
            refine sm ?_
            refine T.pv (PV.move rfl) (Wanted.guard rfl rfl (by assumption)) rfl rfl ?_
            refine T.pv (PV.not rfl) (Wanted.guard rfl rfl (by assumption)) rfl rfl ?_
            refine sv (PV.pickT rfl (by assumption) rfl) ?_
            refine so ?_
            refine T.condF rfl rfl ?_
            refine T.skip ?_
            refine T.blkEnd ?_
            refine sr ?_
            refine sv (PV.add rfl rfl (by omega)) ?_
            refine sm ?_
            refine so ?_
            exact T.nextP ⟨y + 1, H8, true⟩ ⟨by dsimp only; omega, d2.trans h78, fun h => by cases h⟩ (by dsimp only; omega) zq8 (by repeat (first | exact Sel.refl _ | exact Sel.nil | (refine Sel.cons zq1 ?_) | (refine Sel.app zq1 ?_) | exact Sel.one zq1)) rfl
          | false =>
            have hfi := cmpF_first (z := cmpL (keyM a) (keyM b)) (f := valO c [bs [120]] a) (g := valO c [bs [120]] b) hkx (fun i k' hi hk' => d3 rfl i k' hi hk') hpq
            rw [hfi] at hle
            have hcs : cmpS (valO c [bs [120]] a k) (valO c [bs [120]] b k) ≠ 0 := fun h => hpq (cmpS_eq h)
            have hgt : (!((!(Op.bytesLess (valO c [bs [120]] a k).data.toList (valO c [bs [120]] b k).data.toList || decide (valO c [bs [120]] a k = valO c [bs [120]] b k))) == k.fall)) = false := by
              rw [bytesLess_cmp, decide_eq_false hpq, Bool.or_false]
              change (!((!(decide (cmpS (valO c [bs [120]] a k) (valO c [bs [120]] b k) < 0))) == k.fall)) = false
              cases hfl : k.fall
              · rw [hfl] at hle
                simp at hle
                rw [decide_eq_true (by omega)]; rfl
              · rw [hfl] at hle
                simp at hle
                rw [decide_eq_false (by omega)]; rfl
            refine sq ?_
            refine sr ?_
            refine sm ?_
            refine sm ?_
            refine sv (PV.sneq rfl rfl) ?_
            refine sm ?_
            refine T.pv (PV.move rfl) (Wanted.guard rfl rfl (by assumption)) rfl rfl ?_
            refine T.pv (PV.not rfl) (Wanted.guard rfl rfl (by assumption)) rfl rfl ?_
            refine sv (PV.pickT rfl (by assumption) rfl) ?_
            refine so ?_
            refine T.condT rfl rfl ?_
            refine sq ?_
            refine sr ?_
            refine sa ?_
            refine so ?_
            refine sq ?_
            refine sr ?_
            refine sm ?_
            refine sm ?_
            refine sv (PV.sgtr rfl rfl) ?_
            refine sf ?_
            refine sl ?_
            refine sv (PV.bneq rfl rfl) ?_
            refine so ?_
            refine T.condF rfl (by assumption) ?_
            refine T.skip ?_
            refine T.blkEnd ?_
            refine sr ?_
            refine sv (PV.add rfl rfl (by omega)) ?_
            refine sm ?_
            refine so ?_
            exact T.nextP ⟨y + 1, H8, true⟩ ⟨by dsimp only; omega, d2.trans h78, fun h => by cases h⟩ (by dsimp only; omega) zq8 (by repeat (first | exact Sel.refl _ | exact Sel.nil | (refine Sel.cons zq1 ?_) | (refine Sel.app zq1 ?_) | exact Sel.one zq1)) rfl
      · refine T.regionO [(b15, .cells #[.int .i64 k.at_, .int .i64 k.off, .string k.lb, .string k.nm, .bool k.fold, .bool k.back, .bool k.fall] 35 (0, 0)), (b6, .cells #[c.va, c.vt, c.vx, c.vr, c.vn, c.vh, c.vs] 32 (0, 0))] (by kernel_rfl) ?_
        refine TO.take 0 rfl (by kernel_rfl) (by kernel_rfl) (by kernel_rfl) (PV.loadAll rfl zq0 (by exact rfl)) Wanted.none rfl rfl ?_
        refine TO.take 2 rfl (by kernel_rfl) (by kernel_rfl) (by kernel_rfl) (PV.move rfl) Wanted.none rfl rfl ?_
        refine TO.take 3 rfl (by kernel_rfl) (by kernel_rfl) (by kernel_rfl) (PV.move rfl) Wanted.none rfl rfl ?_
        refine TO.take 4 rfl (by kernel_rfl) (by kernel_rfl) (by kernel_rfl) (PV.sub rfl rfl (by omega)) Wanted.none rfl rfl ?_
        refine TO.take 5 rfl (by kernel_rfl) (by kernel_rfl) (by kernel_rfl) (PV.indexAddr rfl rfl (by omega)) Wanted.none rfl rfl ?_
        refine TO.take 6 rfl (by kernel_rfl) (by kernel_rfl) (by kernel_rfl) (PV.loadSubAll rfl (by assumption) (by exact rfl)) Wanted.none rfl rfl ?_
        refine TO.take 7 rfl (by kernel_rfl) (by kernel_rfl) (by kernel_rfl) (PV.loadAll rfl zq0 (by exact rfl)) Wanted.none rfl rfl ?_
        refine TO.take 9 rfl (by kernel_rfl) (by kernel_rfl) (by kernel_rfl) (PV.loadAll rfl zq0 (by exact rfl)) Wanted.none rfl rfl ?_
        refine TO.take 11 rfl (by kernel_rfl) (by kernel_rfl) (by kernel_rfl) (PV.move rfl) Wanted.none rfl rfl ?_
        refine TO.take 12 rfl (by kernel_rfl) (by kernel_rfl) (by kernel_rfl) (PV.move rfl) Wanted.none rfl rfl ?_
        refine TO.take 13 rfl (by kernel_rfl) (by kernel_rfl) (by kernel_rfl) (PV.indexAddr rfl rfl (by omega)) Wanted.none rfl rfl ?_
        refine TO.take 14 rfl (by kernel_rfl) (by kernel_rfl) (by kernel_rfl) (PV.loadSubAll rfl (by assumption) (by exact rfl)) Wanted.none rfl rfl ?_
        refine TO.take 15 rfl (by kernel_rfl) (by kernel_rfl) (by kernel_rfl) (PV.loadAll rfl zq0 (by exact rfl)) Wanted.none rfl rfl ?_
        refine TO.step 1 rfl (by kernel_rfl) zq4 zq17 ?_
        (refine T.call Wanted.none rfl rfl (labels_fn _) ?_; intro v55 H55 hle55 hv55; obtain ⟨ad55, cap55, rfl⟩ := hv55.len)
        refine so ?_
        refine TO.back ?_
        refine TO.step 8 rfl (by kernel_rfl) zq4 zq17 ?_
        (refine T.callX Wanted.none rfl rfl (va _ _ zq17 (hv55.mono zq17)) ?_; rintro _ rfl)
        refine so ?_
        refine TO.back ?_
        refine TO.step 10 rfl (by kernel_rfl) zq4 zq17 ?_
        (refine T.call Wanted.none rfl rfl (labels_fn _) ?_; intro v64 H64 hle64 hv64; obtain ⟨ad64, cap64, rfl⟩ := hv64.len)
        refine so ?_
        refine TO.back ?_
        refine TO.step 16 rfl (by kernel_rfl) zq4 zq17 ?_
        (refine T.callX Wanted.none rfl rfl (vb _ _ zq17 (hv64.mono zq17)) ?_; rintro _ rfl)
        refine so ?_
        refine TO.back ?_
        refine TO.take 17 rfl (by kernel_rfl) (by kernel_rfl) (by kernel_rfl) (PV.assign rfl) Wanted.none rfl rfl ?_
        refine TO.take 18 rfl (by kernel_rfl) (by kernel_rfl) (by kernel_rfl) (PV.assign rfl) Wanted.none rfl rfl ?_
        refine TO.done (by kernel_rfl) zq4 zq17 ?_
        ((refine K _ _ _ _ ?_ ?_ ?_ rfl; (focus exact zq17); (focus exact zq8); (focus exact (by repeat (first | exact Sel.refl _ | exact Sel.nil | (refine Sel.cons zq1 ?_) | (refine Sel.app zq1 ?_) | exact Sel.one zq1)))))
    · have hcm := matchCompare_fn a b H7 (hla.mono d2) (hlb.mono d2)
      unfold mtV at hcm
      rw [hav, hbv] at hcm
      have hsuba := hsuba.mono d2
      have hsubb := hsubb.mono d2
      cases d with
      | true =>
        refine sq ?_
        refine sr ?_
        refine sv (PV.lss rfl rfl) ?_
        refine so ?_
        refine sq ?_
        refine sd rfl (by omega) ?_
        refine T.exit rfl ?_
        refine sq ?_
        refine T.regionQ (by kernel_rfl) ?_
        refine TQ.pv (PV.move rfl) Wanted.none rfl rfl ?_
        refine TQ.pv (PV.not rfl) Wanted.none rfl rfl ?_
        refine TQ.pv (PV.move rfl) Wanted.none rfl rfl ?_
        refine TQ.pass (Unwanted.guard rfl rfl rfl) rfl rfl ?_
        refine TQ.pass (Unwanted.guard rfl rfl rfl) rfl rfl ?_
        refine TQ.pass (Unwanted.guard rfl rfl rfl) rfl rfl ?_
        refine TQ.pass (Unwanted.guard rfl rfl rfl) rfl rfl ?_
        refine TQ.pass (Unwanted.guard rfl rfl rfl) rfl rfl ?_
        refine TQ.pass (Unwanted.guard rfl rfl rfl) rfl rfl ?_
        refine TQ.pass (Unwanted.guard rfl rfl rfl) rfl rfl ?_
        refine TQ.pass (Unwanted.guard rfl rfl rfl) rfl rfl ?_
        refine TQ.pass (Unwanted.guard rfl rfl rfl) rfl rfl ?_
        refine TQ.pass (Unwanted.guard rfl rfl rfl) rfl rfl ?_
        refine TQ.pass (Unwanted.guard rfl rfl rfl) rfl rfl ?_
        refine TQ.pv (PV.pickF rfl rfl rfl) Wanted.none rfl rfl ?_
        refine TQ.nil ?_
        refine T.condF rfl rfl ?_
        refine T.skip ?_
        refine T.blkEnd ?_
        refine sr ?_
        refine sm ?_
        refine sv (PV.add rfl rfl (by omega)) ?_
        refine sa ?_
        refine so ?_
        exact T.nextP ⟨j + 2, H7⟩ ⟨by dsimp only; omega, h57⟩ (by dsimp only; omega) zq8 (by repeat (first | exact Sel.refl _ | exact Sel.nil | (refine Sel.cons zq1 ?_) | (refine Sel.app zq1 ?_) | exact Sel.one zq1)) rfl
      | false =>
        have hno := cmpF_none (z := cmpL (keyM a) (keyM b)) (f := valO c [bs [120]] a) (g := valO c [bs [120]] b) (ks := [k28, k30]) (fun k hk => by
          obtain ⟨i, hi, e⟩ := List.getElem_of_mem hk
          exact d3 rfl i k (by simp at hi; omega) (by rw [List.getElem?_eq_getElem hi, e]))
        rw [hno] at hle
        refine sq ?_
        refine sr ?_
        refine sv (PV.lss rfl rfl) ?_
        refine so ?_
        refine sq ?_
        refine sd rfl (by omega) ?_
        refine T.exit rfl ?_
        (repeat refine sq ?_)
        refine T.regionO [] (by kernel_rfl) ?_
        refine TO.take 0 rfl (by kernel_rfl) (by kernel_rfl) (by kernel_rfl) (PV.move rfl) Wanted.none rfl rfl ?_
        refine TO.take 1 rfl (by kernel_rfl) (by kernel_rfl) (by kernel_rfl) (PV.not rfl) Wanted.none rfl rfl ?_
        refine TO.take 2 rfl (by kernel_rfl) (by kernel_rfl) (by kernel_rfl) (PV.move rfl) Wanted.none rfl rfl ?_
        refine TO.take 3 rfl (by kernel_rfl) (by kernel_rfl) (by kernel_rfl) (PV.move rfl) (Wanted.guard rfl rfl rfl) rfl rfl ?_
        refine TO.take 4 rfl (by kernel_rfl) (by kernel_rfl) (by kernel_rfl) (PV.move rfl) (Wanted.guard rfl rfl rfl) rfl rfl ?_
        refine TO.take 5 rfl (by kernel_rfl) (by kernel_rfl) (by kernel_rfl) (PV.sub rfl rfl (by omega)) (Wanted.guard rfl rfl rfl) rfl rfl ?_
        refine TO.take 6 rfl (by kernel_rfl) (by kernel_rfl) (by kernel_rfl) (PV.indexAddr rfl rfl (by omega)) (Wanted.guard rfl rfl rfl) rfl rfl ?_
        refine TO.take 7 rfl (by kernel_rfl) (by kernel_rfl) (by kernel_rfl) (PV.loadSubAll rfl (by assumption) (by exact rfl)) (Wanted.guard rfl rfl rfl) rfl rfl ?_
        refine TO.take 8 rfl (by kernel_rfl) (by kernel_rfl) (by kernel_rfl) (PV.move rfl) (Wanted.guard rfl rfl rfl) rfl rfl ?_
        refine TO.take 9 rfl (by kernel_rfl) (by kernel_rfl) (by kernel_rfl) (PV.move rfl) (Wanted.guard rfl rfl rfl) rfl rfl ?_
        refine TO.take 10 rfl (by kernel_rfl) (by kernel_rfl) (by kernel_rfl) (PV.indexAddr rfl rfl (by omega)) (Wanted.guard rfl rfl rfl) rfl rfl ?_
        refine TO.take 11 rfl (by kernel_rfl) (by kernel_rfl) (by kernel_rfl) (PV.loadSubAll rfl (by assumption) (by exact rfl)) (Wanted.guard rfl rfl rfl) rfl rfl ?_
        refine TO.step 12 rfl (by kernel_rfl) zq4 zq17 ?_
        refine T.callV (Wanted.guard rfl rfl rfl) rfl rfl (hcm) ?_
        refine so ?_
        refine TO.back ?_
        refine TO.take 13 rfl (by kernel_rfl) (by kernel_rfl) (by kernel_rfl) (PV.gtr rfl rfl) (Wanted.guard rfl rfl rfl) rfl rfl ?_
        refine TO.take 14 rfl (by kernel_rfl) (by kernel_rfl) (by kernel_rfl) (PV.pickT rfl rfl rfl) Wanted.none rfl rfl ?_
        refine TO.done (by kernel_rfl) zq4 zq17 ?_
        refine sd rfl (by omega) ?_
        refine T.skip ?_
        refine T.blkEnd ?_
        refine sr ?_
        refine sm ?_
        refine sv (PV.add rfl rfl (by omega)) ?_
        refine sa ?_
        refine so ?_
        exact T.nextP ⟨j + 2, H7⟩ ⟨by dsimp only; omega, h57⟩ (by dsimp only; omega) zq8 (by repeat (first | exact Sel.refl _ | exact Sel.nil | (refine Sel.cons zq1 ?_) | (refine Sel.app zq1 ?_) | exact Sel.one zq1)) rfl
  · have kn := known_fn H6
    refine sq ?_
    refine sq ?_
    refine sr ?_
    refine sm ?_
    refine sm ?_
    refine sv (PV.lenSl rfl) ?_
    refine sv (PV.lss rfl rfl) ?_
    refine so ?_
    refine sd rfl (by omega) ?_
    refine T.exit rfl ?_
    refine sq ?_
    refine sr ?_
    refine T.callV Wanted.none rfl rfl (kn) ?_
    refine sa ?_
    refine so ?_
    exact T.retF (Lv.fin (RV.tmp rfl rfl) rfl)
end Go.Proofs.Ytlklcjpmfjmenaa
