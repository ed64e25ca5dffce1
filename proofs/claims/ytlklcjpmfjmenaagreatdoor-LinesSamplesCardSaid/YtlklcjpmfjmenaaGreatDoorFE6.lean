/- lines: Sample: the program. -/
import Derived.Test.YtlklcjpmfjmenaaGreatDoorGE
import Derived.Test.YtlklcjpmfjmenaaGreatDoorFKM
namespace Go.Proofs.YtlklcjpmfjmenaaGreatDoor
open Go.RowKit

abbrev KuIn (S : List Ku) := {r : Ku // r ∈ S}
def ordA (S : List Ku) (a b : KuIn S) : Int := cmpI a.1.at_ b.1.at_
theorem ordA_lt (S : List Ku) (a b : KuIn S) : Go.Proofs.ltOf (ordA S) a b = decide (a.1.at_ < b.1.at_) := by
  unfold Go.Proofs.ltOf
  rw [decide_eq_decide]
  unfold ordA cmpI
  split <;> (try split) <;> omega
theorem ordA_swo (S : List Ku) : Go.Sort.SWO (Go.Proofs.ltOf (ordA S)) where
  irrefl x := by rw [ordA_lt]; simp
  trans x y z h1 h2 := by
    rw [ordA_lt, decide_eq_true_eq] at *
    omega
  ntrans x y z h1 h2 := by
    rw [ordA_lt, decide_eq_false_iff_not] at *
    omega
def encKuIn {S : List Ku} (r : KuIn S) : List Value := encKu r.1
set_option maxHeartbeats 1000000 in
theorem sortA_fn (S : List Ku) (k : Nat) (ad : Option Addr) (cap : Nat) (lv : List (Nat × Obj)) (H : Hp) (hv : RowV 97 encKu 5 (.slice ad S.length cap) lv S) (hok : ∀ x ∈ S, KuOk H x) (hinj : ∀ x ∈ S, ∀ y ∈ S, x.at_ = y.at_ → x = y) (hk : k ≤ S.length) (hl : S.length ≤ 1000000) :
    FnW Tryz.prog 57 #[.slice ad k cap, .func (.func 58) #[] #[]] H lv (fun u H' l' => u = .tuple #[] ∧ H' = H ∧ ∃ T, T.Perm (S.take k) ∧ (T.Pairwise fun a b => a.at_ ≤ b.at_) ∧ RowV 97 encKu 5 (.slice ad k cap) l' T) := by
  rcases Nat.eq_zero_or_pos k with rfl | hk0
  · refine FnW.mk fun w hw => callsIn_wide.2 ((Go.Proofs.AnyF.slices_SortFunc_none (ρ := Tryz.sortL_ren) { Tryz.sortL with } ad cap (.func (.func 58) #[] #[]) w).mono ?_)
    rintro e w' ⟨rfl, rfl⟩
    refine ⟨_, H, lv, rfl, hw, rfl, rfl, [], by simp, List.Pairwise.nil, ?_⟩
    rcases hv.2 with ⟨⟨ad', hve⟩, rfl, h0⟩ | ⟨b, cap', cs, hve, rfl, h2, h3, h4, h5⟩
    · injection hve with e1 e2 e3
      subst e1 e3
      exact Vec.empty _ _ _
    · injection hve with e1 e2 e3
      subst e1 e3
      exact ⟨by simp, .inr ⟨b, cap, cs, rfl, rfl, Nat.zero_le _, h3, h4, by simp⟩⟩
  · rcases hv.2 with ⟨⟨ad', hve⟩, rfl, h0⟩ | ⟨b, cap', cs, hve, rfl, h2, h3, h4, h5⟩
    · omega
    · injection hve with e1 e2 e3
      subst e1 e3
      obtain ⟨x0, hx0⟩ : ∃ x, S[0]? = some x := ⟨_, List.getElem?_eq_getElem (by omega)⟩
      haveI : Inhabited (KuIn S) := ⟨⟨x0, List.mem_of_getElem? hx0⟩⟩
      obtain ⟨d, hd0⟩ : ∃ d : List (KuIn S), d = S.attach.take k := ⟨_, rfl⟩
      have hd : d.map Subtype.val = S.take k := by rw [hd0, List.map_take, List.attach_map_subtype_val]
      have hdl : d.length = k := by rw [hd0, List.length_take, List.length_attach]; omega
      have henc : ∀ l : List (KuIn S), l.flatMap encKuIn = (l.map Subtype.val).flatMap encKu := fun l => by rw [List.flatMap_map]; rfl
      obtain ⟨tl, rfl⟩ : ∃ tl, cs = d.flatMap encKuIn ++ tl := by
        refine ⟨(S.drop k).flatMap encKu ++ cs.drop (S.length * 5), ?_⟩
        rw [henc, hd, ← List.append_assoc, ← List.flatMap_append, List.take_append_drop, ← h5, List.take_append_drop]
      have hcmp : ∀ x y : KuIn S, Fn Tryz.prog 58 ([Value.agg (encKuIn x).toArray, .agg (encKuIn y).toArray] ++ []).toArray H (fun v _ => v = .int .i64 (ordA S x y)) := fun x y => atU_fn x.1 y.1 H (hok x.1 x.2) (hok y.1 y.2)
      have hf := sort_FnW (ρ := Tryz.sortL_ren) Tryz.sortL (enc := encKuIn) (k := 5) (b := b) (cap := cap) (el := 97) (by intro w; exact Tryz.isAgg97 w) (by intro w; exact Tryz.sizeOf97 w) (fun x => encKu_len x.1) (fun x => one_encKu (hok x.1 x.2)) (ordA S) (ordA_swo S) (fun x y h1 h2 => by
        rw [ordA_lt, decide_eq_false_iff_not] at h1 h2
        exact Subtype.ext (hinj x.1 x.2 y.1 y.2 (by omega))) 58 [] d tl hcmp (by omega)
      rw [hdl] at hf
      refine hf.mono ?_
      rintro v H' l' ⟨rfl, rfl, rfl⟩
      obtain ⟨Q, hQ⟩ : ∃ Q, Q = d.mergeSort fun x y => !(Go.Proofs.ltOf (ordA S)) y x := ⟨_, rfl⟩
      rw [← hQ]
      have hQp : Q.Perm d := by rw [hQ]; exact List.mergeSort_perm _ _
      have hQl : (Q.map Subtype.val).length = k := by rw [List.length_map, hQp.length_eq, hdl]
      have hpw : Q.Pairwise fun a b => a.1.at_ ≤ b.1.at_ := by
        rw [hQ]
        have h := List.pairwise_mergeSort (le := fun x y => !(Go.Proofs.ltOf (ordA S)) y x) (fun a b c h1 h2 => by
          simp only [ordA_lt, Bool.not_eq_true', decide_eq_false_iff_not] at *
          omega) (fun a b => by
          simp only [ordA_lt, Bool.or_eq_true, Bool.not_eq_true', decide_eq_false_iff_not]
          omega) d
        refine h.imp ?_
        intro a b hab
        simp only [ordA_lt, Bool.not_eq_true', decide_eq_false_iff_not] at hab
        omega
      refine ⟨rfl, rfl, Q.map Subtype.val, by rw [← hd]; exact hQp.map _, List.pairwise_map.2 hpw, ?_⟩
      have hfl := flat_len encKu_len (Q.map Subtype.val)
      refine ⟨hfl, .inr ⟨b, cap, Q.flatMap encKuIn ++ tl, by rw [hQl], rfl, by rw [hQl]; omega, h3, ?_, ?_⟩⟩
      · rw [← h4, List.length_append, List.length_append, henc, henc, hfl, flat_len encKu_len, hQl, List.length_map, hdl]
      · rw [henc, ← hfl, List.take_left]
def smpE (c : Cp) (L : List Mt) (n : Int) : Int := if n < 0 then 1 else if L.all (fun m => (fitO c m).isSome) then 0 else 8
structure SmG where
  i : Nat
  H : Hp
  v : Value
  lv : List (Nat × Obj)
  R : List Ku
theorem kuK_at {R : List Ku} {c : Cp} {seed : Int} {L : List Mt} (h : R.map kuK = rowsU c seed L) : R.Pairwise fun a b => a.at_ < b.at_ := by
  have := rowsU_pw c seed L
  rw [← h, List.pairwise_map] at this
  exact this
theorem pw_inj : ∀ {l : List Ku}, (l.Pairwise fun a b => a.at_ ≠ b.at_) → ∀ x ∈ l, ∀ y ∈ l, x.at_ = y.at_ → x = y
  | [], _, x, hx, _, _, _ => by cases hx
  | a :: l, h, x, hx, y, hy, e => by
    rw [List.pairwise_cons] at h
    rcases List.mem_cons.1 hx with rfl | hx1
    · rcases List.mem_cons.1 hy with rfl | hy1
      · rfl
      · exact absurd e (h.1 y hy1)
    · rcases List.mem_cons.1 hy with rfl | hy1
      · exact absurd e.symm (h.1 x hx1)
      · exact pw_inj h.2 x hx1 y hy1 e
set_option maxHeartbeats 8000000 in
theorem sample_in (c : Cp) (L : List Mt) (vm : Value) (seed n : Int) (H : Hp) (hc : CpL H c) (hw : CpW c) (hL : MtL H vm L) (hLl : L.length ≤ 19) (hls : ∀ m ∈ L, m.ls.length ≤ 1000) (hT : PowT H) (hs : -9223372036854775808 ≤ seed ∧ seed ≤ 9223372036854775807) (htx : ∀ t ∈ c.tx, t.ty.size ≤ 1000000) :
    Fn Tryz.prog 22 #[cpV c, vm, .int .i64 seed, .int .i64 n] H (fun u H' => ∃ v A, u = .tuple #[v, .int .i64 (smpE c L n)] ∧ MtL H' v A ∧ (smpE c L n = 0 → A.map keyM = (smpU (rowsU c seed L) n.toNat).map (·.1)) ∧ (smpE c L n ≠ 0 → A = [])) := by
  obtain ⟨am, cm, rfl⟩ := hL.1.len
  unfold cpV
  refine Fn.of_T (vs := [.agg #[c.va, c.vt, c.vx, c.vr, c.vn, c.vh, c.vs], .slice am L.length cm, .int .i64 seed, .int .i64 n]) Tryz.func22 rfl rfl fun w => ?_
  by_cases hn0 : n < 0
  · have h1 : smpE c L n = 1 := by unfold smpE; rw [if_pos hn0]
    refine sq ?_
    refine sr ?_
    (refine T.box Wanted.none rfl rfl zq15 ?_; intro b4)
    refine sa ?_
    refine sa ?_
    refine so ?_
    refine sq ?_
    refine sq ?_
    refine sr ?_
    refine sm ?_
    refine sv (PV.lss rfl rfl) ?_
    refine so ?_
    refine sc rfl (by omega) ?_
    refine sq ?_
    refine sr ?_
    refine sa ?_
    refine sa ?_
    refine so ?_
    exact T.retF (Lv.fin (RV.tmp2 rfl rfl rfl) ⟨_, [], by rw [h1], ⟨SlR.empty, by simp⟩, by rw [h1]; intro h; omega, fun _ => rfl⟩)
  refine sq ?_
  refine sr ?_
  (refine T.box Wanted.none rfl rfl zq15 ?_; intro b4)
  refine sa ?_
  refine sa ?_
  refine so ?_
  refine sq ?_
  refine sq ?_
  refine sr ?_
  refine sm ?_
  refine sv (PV.lss rfl rfl) ?_
  refine so ?_
  refine sd rfl (by omega) ?_
  refine T.skip ?_
  refine sq ?_
  refine sr ?_
  refine sa ?_
  refine so ?_
  refine sq ?_
  refine sq ?_
  refine sr ?_
  refine sm ?_
  refine sv (PV.lenSl rfl) ?_
  refine sm ?_
  refine so ?_
  refine T.block ?_
  refine T.loopK [(21, Value.int IntKind.i64 (↑L.length : Int)), (20, Value.slice am L.length cm), (4, Value.pointer (some { block := b4, off := 0 })), (1, Value.slice am L.length cm), (2, Value.int IntKind.i64 seed), (3, Value.int IntKind.i64 n)] zq8 (γ := SmG) (fun g => g.i ≤ L.length ∧ H.le g.H ∧ RowV 97 encKu 5 g.v g.lv g.R ∧ (∀ r ∈ g.R, KuOk g.H r) ∧ g.R.map kuK = rowsU c seed (L.take g.i) ∧ (L.take g.i).all (fun m => (fitO c m).isSome) = true) (fun g => [(22, .int .i64 (g.i : Int)), (10, g.v)]) (fun g => g.lv ++ [(b4, .cells #[c.va, c.vt, c.vx, c.vr, c.vn, c.vh, c.vs] 34 (0, 0))]) (fun g => g.H) (fun g => L.length - g.i) ⟨0, H, .slice none 0 0, [], []⟩ ⟨by simp, Hp.le.refl _, Vec.nil _ _, by simp, by simp [rowsU], by simp⟩ zq8 (by repeat (first | exact Sel.refl _ | exact Sel.nil | (refine Sel.cons zq1 ?_) | (refine Sel.app zq1 ?_) | exact Sel.one zq1)) rfl ?_
  rintro ⟨i, H2, v, lv, R⟩ ⟨g1, g2, g3, g4, g5, g6⟩
  dsimp only at g1 g2 g3 g4 g5 g6 ⊢
  obtain ⟨adv, capv, rfl⟩ := g3.val
  have hRl : R.length = i := by have := congrArg List.length g5; rw [List.length_map, rowsU_len, List.length_take] at this; omega
  by_cases hi : i < L.length
  · obtain ⟨bx, off, m, rfl, hix, hsub⟩ := RowL.get encM_len (hL.1.mono g2) hi
    have hmm := List.mem_of_getElem? hix
    have hlab := (hL.2 m hmm).mono g2
    obtain ⟨al, cl, hmv⟩ := hlab.1.len
    unfold encM at hsub
    rw [hmv] at hsub
    have hc2 := hc.mono g2
    have hfi := fits_in c m H2 hc2 hw hlab (hls m hmm)
    have hcp := fun H' (h : H2.le H') => copied_fn m H' (hlab.mono h)
    have hha := fun H' (h : H2.le H') => hash_fn c m seed H' (hc2.mono h) hw (hlab.mono h) (hls m hmm) (hT.mono (g2.trans h)) hs htx
    unfold cpV mtV at hfi hha
    unfold mtV at hcp
    simp only [hmv] at hfi hcp hha
    have htk : (L.take (i + 1)).all (fun m => (fitO c m).isSome) = (fitO c m).isSome := by rw [List.take_add_one, hix, List.all_append, g6]; simp
    cases hf : fitO c m with
    | none =>
      have h8 : smpE c L n = 8 := by
        unfold smpE
        rw [if_neg hn0, if_neg]
        rw [List.all_eq_true]
        intro h
        have := h m hmm
        rw [hf] at this
        cases this
      rw [hf] at hfi
      change Fn _ _ _ _ (fun u _ => u = .tuple #[.agg #[.string (bs []), .int .i64 0, .int .i64 0, .slice none 0 0], .bool false]) at hfi
      refine sq ?_
      refine sr ?_
      refine sv (PV.lss rfl rfl) ?_
      refine so ?_
      refine sq ?_
      refine sc rfl (by omega) ?_
      refine T.skip ?_
      refine sq ?_
      refine T.block ?_
      refine sq ?_
      refine sr ?_
      refine sm ?_
      refine sv (PV.indexAddr rfl rfl (by omega)) ?_
      refine sv (PV.loadSubAll rfl (by assumption) (by exact rfl)) ?_
      refine sy fun b12 => ?_
      refine sa ?_
      refine T.storeA Wanted.none rfl rfl zq8 (by exact rfl) zq14 zq13 ?_
      refine so ?_
      refine sq ?_
      refine sq ?_
      refine sr ?_
      refine sv (PV.loadAll rfl zq0 (by exact rfl)) ?_
      refine sv (PV.loadAll rfl zq0 (by exact rfl)) ?_
      refine T.callV Wanted.none rfl rfl (hfi) ?_
      refine sm ?_
      refine sv (PV.extract rfl rfl) ?_
      refine sv (PV.extract rfl rfl) ?_
      refine sy fun b13 => ?_
      refine T.storeA Wanted.none rfl rfl zq8 (by exact rfl) zq14 zq13 ?_
      refine sa ?_
      refine so ?_
      refine sq ?_
      refine sr ?_
      refine sm ?_
      refine sv (PV.not rfl) ?_
      refine so ?_
      refine T.condT rfl rfl ?_
      refine sq ?_
      refine sr ?_
      refine sa ?_
      refine sa ?_
      refine so ?_
      exact T.retF (Lv.fin (RV.tmp2 rfl rfl rfl) ⟨_, [], by rw [h8], ⟨SlR.empty, by simp⟩, by rw [h8]; intro h; omega, fun _ => rfl⟩)
    | some t =>
      have hmem := (fitO_some hw hf).1
      obtain ⟨at1, ct, hkv⟩ := (hc2.x.2 t hmem).1.len
      rw [hf] at hfi htk
      rw [Option.getD_some] at hfi
      unfold rgV at hfi
      rw [hkv] at hfi
      change Fn _ _ _ _ (fun u _ => u = .tuple #[.agg #[.string t.ty, .int .i64 t.b, .int .i64 t.e, .slice at1 t.ks.length ct], .bool true]) at hfi
      have hsn : rowsU c seed (L.take (i + 1)) = rowsU c seed (L.take i) ++ [(keyM m, (i : Int), hashO c m seed)] := by
        rw [List.take_add_one, hix]
        refine (rowsU_snoc c seed (L.take i) m).trans ?_
        rw [List.length_take, show min i L.length = i by omega]
      refine sq ?_
      refine sr ?_
      refine sv (PV.lss rfl rfl) ?_
      refine so ?_
      refine sq ?_
      refine sc rfl (by omega) ?_
      refine T.skip ?_
      refine sq ?_
      refine T.block ?_
      refine sq ?_
      refine sr ?_
      refine sm ?_
      refine sv (PV.indexAddr rfl rfl (by omega)) ?_
      refine sv (PV.loadSubAll rfl (by assumption) (by exact rfl)) ?_
      refine sy fun b12 => ?_
      refine sa ?_
      refine T.storeA Wanted.none rfl rfl zq8 (by exact rfl) zq14 zq13 ?_
      refine so ?_
      refine sq ?_
      refine sq ?_
      refine sr ?_
      refine sv (PV.loadAll rfl zq0 (by exact rfl)) ?_
      refine sv (PV.loadAll rfl zq0 (by exact rfl)) ?_
      refine T.callV Wanted.none rfl rfl (hfi) ?_
      refine sm ?_
      refine sv (PV.extract rfl rfl) ?_
      refine sv (PV.extract rfl rfl) ?_
      refine sy fun b13 => ?_
      refine T.storeA Wanted.none rfl rfl zq8 (by exact rfl) zq14 zq13 ?_
      refine sa ?_
      refine so ?_
      refine sq ?_
      refine sr ?_
      refine sm ?_
      refine sv (PV.not rfl) ?_
      refine so ?_
      refine T.condF rfl rfl ?_
      refine T.skip ?_
      (repeat refine sq ?_)
      refine T.regionO [(b12, .cells #[.int .i64 m.b, .int .i64 m.e, .slice al m.ls.length cl] 24 (0, 0)), (b4, .cells #[c.va, c.vt, c.vx, c.vr, c.vn, c.vh, c.vs] 34 (0, 0))] (by kernel_rfl) ?_
      refine TO.take 0 rfl (by kernel_rfl) (by kernel_rfl) (by kernel_rfl) (PV.move rfl) Wanted.none rfl rfl ?_
      refine TO.take 1 rfl (by kernel_rfl) (by kernel_rfl) (by kernel_rfl) (PV.loadAll rfl zq0 (by exact rfl)) Wanted.none rfl rfl ?_
      refine TO.take 3 rfl (by kernel_rfl) (by kernel_rfl) (by kernel_rfl) (PV.move rfl) Wanted.none rfl rfl ?_
      refine TO.take 4 rfl (by kernel_rfl) (by kernel_rfl) (by kernel_rfl) (PV.loadAll rfl zq0 (by exact rfl)) Wanted.none rfl rfl ?_
      refine TO.take 5 rfl (by kernel_rfl) (by kernel_rfl) (by kernel_rfl) (PV.loadAll rfl zq0 (by exact rfl)) Wanted.none rfl rfl ?_
      refine TO.take 6 rfl (by kernel_rfl) (by kernel_rfl) (by kernel_rfl) (PV.move rfl) Wanted.none rfl rfl ?_
      refine TO.step 2 rfl (by kernel_rfl) zq4 zq17 ?_
      (refine T.call Wanted.none rfl rfl (hcp _ zq17) ?_; rintro _ H37 h37 ⟨v37, rfl, hm37⟩; have hq37 : InL H37 v37 m.ls := hm37.1; obtain ⟨ad37, cap37, rfl⟩ := hq37.len)
      refine so ?_
      refine TO.back ?_
      refine TO.step 7 rfl (by kernel_rfl) zq4 zq17 ?_
      (refine T.callX Wanted.none rfl rfl (hha _ zq17) ?_; rintro _ rfl)
      refine so ?_
      refine TO.back ?_
      refine TO.take 8 rfl (by kernel_rfl) (by kernel_rfl) (by kernel_rfl) (PV.build rfl zq12) Wanted.none rfl rfl ?_
      refine TO.step 9 rfl (by kernel_rfl) zq4 zq17 ?_
      (refine T.buildSlice Wanted.none rfl rfl zq11 (by exact rfl) (by exact rfl) ?_; intro b44)
      refine so ?_
      refine TO.back ?_
      refine TO.step 10 rfl (by kernel_rfl) zq4 zq17 ?_
      (refine T.appendP (lv := lv) Wanted.none rfl rfl rfl g3 (Src.cells (m := 1) (ys := encKu ⟨⟨m.b, m.e, .slice ad37 m.ls.length cap37, m.ls⟩, (i : Int), hashO c m seed⟩) (.own zq2) rfl rfl) (one_encKu (H := H37) hm37) (by omega) zq1 ?_; intro v45 lv45 hv45 _; obtain ⟨ad45, cap45, rfl⟩ := hv45.val)
      refine so ?_
      refine TO.back ?_
      refine TO.take 11 rfl (by kernel_rfl) (by kernel_rfl) (by kernel_rfl) (PV.assign rfl) Wanted.none rfl rfl ?_
      refine TO.done (by kernel_rfl) zq4 zq17 ?_
      refine T.blkEnd ?_
      refine sr ?_
      refine sv (PV.add rfl rfl (by omega)) ?_
      refine sm ?_
      refine so ?_
      ((have hrow : KuOk H37 ⟨⟨m.b, m.e, .slice ad37 m.ls.length cap37, m.ls⟩, (i : Int), hashO c m seed⟩ := hm37; refine T.nextP ⟨i + 1, H37, _, lv45, R ++ [⟨⟨m.b, m.e, .slice ad37 m.ls.length cap37, m.ls⟩, (i : Int), hashO c m seed⟩]⟩ ⟨by dsimp only; omega, g2.trans h37, RowV.snoc hv45, fun r hr => ?_, by dsimp only; rw [List.map_append, g5, hsn]; rfl, htk⟩ (by dsimp only; omega) zq8 (by repeat (first | exact Sel.refl _ | exact Sel.nil | (refine Sel.cons zq1 ?_) | (refine Sel.app zq1 ?_) | exact Sel.one zq1)) rfl; rcases List.mem_append.1 hr with hr | hr; (focus exact (g4 r hr).mono h37); (rw [List.mem_singleton] at hr; subst hr; exact hrow)))
  · rw [List.take_of_length_le (by omega)] at g5 g6
    have h0 : smpE c L n = 0 := by unfold smpE; rw [if_neg hn0, if_pos g6]
    have hst := sortStableU_fn R (.slice adv R.length capv) lv H2 g3 g4 (by omega) (fun a b => cmpI a.key b.key) 55 []
      (fun x hx y hy => keyU_fn x y H2 (g4 x hx) (g4 y hy))
    obtain ⟨S, hS⟩ : ∃ S, S = sortK (fun a b : Ku => decide (cmpI a.key b.key < 0)) R := ⟨_, rfl⟩
    have hSp : S.Perm R := by rw [hS]; exact sortK_perm _ _
    have hSl : S.length = R.length := hSp.length_eq
    have hSok : ∀ r ∈ S, KuOk H2 r := fun r hr => g4 r (hSp.mem_iff.1 hr)
    have hSinj : ∀ x ∈ S, ∀ y ∈ S, x.at_ = y.at_ → x = y := by
      refine pw_inj ?_
      exact (List.Perm.pairwise_iff (fun {a b} h => Ne.symm h) hSp).2 ((kuK_at g5).imp fun {a b} h => by omega)
    rw [← hS] at hst
    refine sq ?_
    refine sr ?_
    refine sv (PV.lss rfl rfl) ?_
    refine so ?_
    refine sq ?_
    refine sd rfl (by omega) ?_
    refine T.exit rfl ?_
    refine sq ?_
    refine sr ?_
    refine sm ?_
    (refine T.callW Wanted.none rfl rfl hst zq1 ?_; rintro _ H9 lv1 _ ⟨rfl, rfl, h1⟩)
    refine so ?_
    obtain ⟨k, hk⟩ : ∃ k : Nat, (k : Int) = min n (L.length : Int) := ⟨(min n (L.length : Int)).toNat, by omega⟩
    have hkS : k ≤ S.length := by omega
    rw [← hSl] at h1
    have hkc : k ≤ capv := by
      rcases h1.2 with ⟨⟨ad', hve⟩, _, h00⟩ | ⟨b, cap', cs, hve, _, h22, _⟩
      · omega
      · injection hve with e1 e2 e3
        omega
    have hsa := sortA_fn S k adv capv lv1 H9 h1 hSok hSinj hkS (by omega)
    refine sq ?_
    refine sr ?_
    refine sm ?_
    refine sm ?_
    refine sm ?_
    refine sv (PV.lenSl rfl) ?_
    refine sv (PV.min2 rfl rfl) ?_
    refine sv (PV.sliceH rfl rfl (by omega)) ?_
    refine sa ?_
    refine so ?_
    rw [show (min n (L.length : Int)).toNat = k by omega]
    refine sq ?_
    refine sr ?_
    refine sm ?_
    (refine T.callW Wanted.none rfl rfl hsa zq1 ?_; rintro _ HA lv2 _ ⟨rfl, rfl, Q, hQp, hQs, h2⟩)
    refine so ?_
    have hQl : Q.length = k := by rw [hQp.length_eq, List.length_take]; omega
    have hSne : S.Pairwise fun a b => a.at_ ≠ b.at_ := (List.Perm.pairwise_iff (fun {a b} h => Ne.symm h) hSp).2 ((kuK_at g5).imp fun {a b} h => by omega)
    have hQlt : Q.Pairwise fun a b => a.at_ < b.at_ := by
      have h3 : Q.Pairwise fun a b => a.at_ ≠ b.at_ := (List.Perm.pairwise_iff (fun {a b} h => Ne.symm h) hQp).2 (hSne.sublist (List.take_sublist _ _))
      exact (hQs.and h3).imp fun {a b} h => by omega
    have htk : S.take k = S.take n.toNat := by
      by_cases hkn : k = n.toNat
      · rw [hkn]
      · rw [List.take_of_length_le (by omega), List.take_of_length_le (by omega)]
    have hfin : Q.map kuK = smpU (rowsU c seed L) n.toNat := rows_smp g5 (by rw [← hS, ← htk]; exact hQp) hQlt
    refine T.freezeP (lv := lv2) h2 zq1 ?_
    intro H5 h5 hs5
    have hQok : ∀ r ∈ Q, KuOk H5 r := fun r hr => (hSok r (List.mem_of_mem_take (hQp.mem_iff.1 hr))).mono h5
    subst hQl
    refine sq ?_
    refine sr ?_
    refine sa ?_
    refine so ?_
    refine sq ?_
    refine sq ?_
    refine sr ?_
    refine sm ?_
    refine sv (PV.lenSl rfl) ?_
    refine sm ?_
    refine so ?_
    refine T.block ?_
    refine T.loopK [(58, Value.int IntKind.i64 (↑Q.length : Int)), (57, Value.slice adv Q.length capv)] zq8 (γ := SuG) (fun g => g.j ≤ Q.length ∧ RowV 24 encM 3 g.v g.lv ((Q.take g.j).map (·.m))) (fun g => [(59, .int .i64 (g.j : Int)), (15, g.v)]) (fun g => g.lv) (fun _ => H5) (fun g => Q.length - g.j) ⟨0, .slice none 0 0, []⟩ ⟨by simp, Vec.nil _ _⟩ zq8 (by repeat (first | exact Sel.refl _ | exact Sel.nil | (refine Sel.cons zq1 ?_) | (refine Sel.app zq1 ?_) | exact Sel.one zq1)) rfl ?_
    rintro ⟨j, v3, lv3⟩ ⟨j1, j2⟩
    dsimp only at j1 j2 ⊢
    obtain ⟨ad3, cap3, rfl⟩ := j2.val
    by_cases hj : j < Q.length
    · obtain ⟨b5, off5, r, rfl, hrx, hsubr⟩ := RowL.get encKu_len hs5 hj
      have hrok := hQok r (List.mem_of_getElem? hrx)
      obtain ⟨ar, cr, hrv⟩ := hrok.1.len
      unfold encKu at hsubr
      rw [hrv] at hsubr
      have hmE : encM r.m = [.int .i64 r.m.b, .int .i64 r.m.e, .slice ar r.m.ls.length cr] := by unfold encM; rw [hrv]
      have hone : ∀ v ∈ ([.int .i64 r.m.b, .int .i64 r.m.e, .slice ar r.m.ls.length cr] : List Value), v.oneCell' = true := by
        intro v hv
        simp only [List.mem_cons, List.not_mem_nil, or_false] at hv
        rcases hv with rfl | rfl | rfl <;> rfl
      have hsn : (Q.take (j + 1)).map (·.m) = (Q.take j).map (·.m) ++ [r.m] := by rw [List.take_add_one, hrx, List.map_append]; rfl
      refine sq ?_
      refine sr ?_
      refine sv (PV.lss rfl rfl) ?_
      refine so ?_
      refine sq ?_
      refine sc rfl (by omega) ?_
      refine T.skip ?_
      refine sq ?_
      refine T.block ?_
      refine sq ?_
      refine sr ?_
      refine sv (PV.indexAddr rfl rfl (by omega)) ?_
      refine sv (PV.loadSubAll rfl (by assumption) (by exact rfl)) ?_
      refine sy fun b17 => ?_
      refine T.storeA Wanted.none rfl rfl zq8 (by exact rfl) zq14 zq13 ?_
      refine so ?_
      refine sr ?_
      refine sm ?_
      refine sf ?_
      refine sv (PV.loadAgg (vs := [.int .i64 r.m.b, .int .i64 r.m.e, .slice ar r.m.ls.length cr]) rfl zq0 (by exact rfl) (by exact rfl)) ?_
      (refine T.buildSlice Wanted.none rfl rfl zq11 (by exact rfl) (by exact rfl) ?_; intro b66)
      (refine T.appendP (lv := lv3) Wanted.none rfl rfl rfl j2 (Src.cells (m := 1) (ys := [.int .i64 r.m.b, .int .i64 r.m.e, .slice ar r.m.ls.length cr]) (.own zq2) rfl rfl) hone (by simp; omega) zq1 ?_; intro v67 lv67 hv67 _; obtain ⟨ad67, cap67, rfl⟩ := hv67.val)
      refine sa ?_
      refine so ?_
      refine T.blkEnd ?_
      refine sr ?_
      refine sv (PV.add rfl rfl (by omega)) ?_
      refine sm ?_
      refine so ?_
      refine T.nextP ⟨j + 1, _, lv67⟩ ⟨by dsimp only; omega, ?_⟩ (by dsimp only; omega) zq8 (by repeat (first | exact Sel.refl _ | exact Sel.nil | (refine Sel.cons zq1 ?_) | (refine Sel.app zq1 ?_) | exact Sel.one zq1)) rfl
      dsimp only
      rw [hsn]
      rw [← hmE] at hv67
      exact MtV.snoc' hv67
    · obtain rfl : j = Q.length := by omega
      rw [List.take_length] at j2 ⊢
      refine sq ?_
      refine sr ?_
      refine sv (PV.lss rfl rfl) ?_
      refine so ?_
      refine sq ?_
      refine sd rfl (by omega) ?_
      refine T.exit rfl ?_
      refine sq ?_
      refine sr ?_
      refine sm ?_
      refine sa ?_
      refine sa ?_
      refine so ?_
      refine T.retF (Vec.freezeLv (l' := []) j2 (by rw [List.append_nil]; exact zq4) fun H' hleF hsl => Lv.fin (RV.tmp2 rfl rfl rfl) ⟨_, Q.map (·.m), by rw [h0], ⟨hsl, fun m hm => ?_⟩, fun _ => ?_, fun h => absurd h0 h⟩)
      · obtain ⟨r, hr, rfl⟩ := List.mem_map.1 hm
        exact LabOk.mono (hQok r hr) hleF
      · rw [← hfin, List.map_map, List.map_map]; rfl
end Go.Proofs.YtlklcjpmfjmenaaGreatDoor
