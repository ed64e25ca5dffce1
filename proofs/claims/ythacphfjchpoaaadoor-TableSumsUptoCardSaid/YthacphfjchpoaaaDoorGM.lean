/- table: Count: the program.
   table: Count: the reference. -/
import Derived.Test.YthacphfjchpoaaaDoorGL
import Derived.Test.YthacphfjchpoaaaDoorGH
namespace Go.Proofs.YthacphfjchpoaaaDoor
open Go.RowKit


theorem ofP_size {H : Hp} {v : Value} {l : List (ByteArray × ByteArray)} (h : PrL H v l) (nm : ByteArray) : (ofP l nm).size ≤ 1000000 := by
  unfold ofP
  cases hf : l.find? fun p => decide (p.1 = nm) with
  | none => show (bs []).size ≤ 1000000; decide
  | some p => exact h.2.2 p (List.mem_of_find?_eq_some hf)
theorem valO_size {c : Cp} {H : Hp} {lb : List ByteArray} {m : Mt} {t : Rg} {g : Gp} (hc : CpL H c) (hw : CpW c) (hf : fitO c m = some t) : (valO c lb m (kyG g)).size ≤ 1000000 := by
  unfold valO
  rw [hf]
  dsimp only
  have hatr := attI_range c.att (kyG g).nm
  split
  · show (bs []).size ≤ 1000000; decide
  · rename_i h
    obtain ⟨_, s, _, _, e3, _, _, e6⟩ := tokAt c H hc hw (posP_range (fitP hw hf) fun h' => h (.inr (.inr h'))) (a := attI c.att (kyG g).nm) (by omega)
    rw [e3]
    show s.size ≤ 1000000
    omega
theorem keyO_size {c : Cp} {H : Hp} {lb : List ByteArray} {m : Mt} {t : Rg} {g : Gp} (hc : CpL H c) (hw : CpW c) (hf : fitO c m = some t) : (keyO c lb m t g).size ≤ 1000000 := by
  unfold keyO
  split
  · exact valO_size hc hw hf
  · split
    · exact ofP_size (hc.x.2 t (fitO_some hw hf).1) _
    · split
      · split
        · show (bs []).size ≤ 1000000; decide
        · rename_i h
          obtain ⟨k, r, e1, e2, e3, e4⟩ := lastAt hc.r h
          rw [e3]
          exact ofP_size e4 _
      · split
        · have hfp := fitP hw hf
          have h1 := hc.lt
          have h2 := hfp.t0
          have h3 := hfp.tb
          have h4 := hfp.be
          have h5 := hfp.et
          have h6 := hfp.tn
          have := itoaB_size (m.e - m.b) (by omega)
          omega
        · show (bs []).size ≤ 1000000; decide
theorem keysO_size {c : Cp} {H : Hp} {lb : List ByteArray} {m : Mt} {gs : List Gp} (hc : CpL H c) (hw : CpW c) : ∀ k ∈ keysO c lb m gs, k.size ≤ 1000000 := by
  intro k hk
  unfold keysO at hk
  cases hf : fitO c m with
  | none => rw [hf] at hk; cases hk
  | some t =>
    rw [hf] at hk
    obtain ⟨g, _, rfl⟩ := List.mem_map.1 hk
    exact keyO_size hc hw hf
theorem keysO_len {c : Cp} {lb : List ByteArray} {m : Mt} {gs : List Gp} : (keysO c lb m gs).length ≤ gs.length := by
  unfold keysO
  split
  · simp
  · simp
theorem joinL_bound : ∀ (ks : List ByteArray), (∀ k ∈ ks, k.size ≤ 1000000) → (joinL ks).length ≤ ks.length * 1000100
  | [], _ => Nat.zero_le _
  | k :: ks, h => by
    have h1 := joinL_bound ks fun x hx => h x (List.mem_cons_of_mem _ hx)
    have h2 := h k (List.mem_cons_self ..)
    have h3 := Lib.itoa_length_le (k.size : Int) (by omega) (by omega)
    rw [Lib.itoa_nonneg] at h3
    have h4 : k.data.toList.length = k.size := Array.length_toList
    rw [joinL]
    simp only [List.length_append, List.length_cons]
    rw [h4, Nat.add_mul]
    omega
/-- whether a match counts -/
def okM (c : Cp) (lb : List ByteArray) (m : Mt) : Bool := (fitO c m).isSome && decide (m.ls.length = lb.length)
def rowK (c : Cp) (lb : List ByteArray) (gs : List Gp) (m : Mt) : RK := (keysO c lb m gs, 1)
def countE (c : Cp) (lb : List ByteArray) (ms : List Mt) (gs : List Gp) : Int :=
  if grpErr c lb gs ≠ 0 then grpErr c lb gs else if ms.all (okM c lb) then 0 else 8
def countR (c : Cp) (lb : List ByteArray) (ms : List Mt) (gs : List Gp) : List RK := sumR (ms.map (rowK c lb gs))
theorem all_no {α : Type} {f : α → Bool} {l : List α} {i : Nat} {x : α} (h : l[i]? = some x) (hf : f x = false) : ¬ l.all f = true := fun ha => by
  rw [List.all_eq_true.1 ha x (List.mem_of_getElem? h)] at hf; cases hf
theorem all_drop {α : Type} {f : α → Bool} {l : List α} {i : Nat} {x : α} (h : (l.take i).all f = true) (hx : l[i]? = some x) (hf : f x = true) : (l.take (i + 1)).all f = true := by
  rw [List.take_add_one, hx, List.all_append, h]; simpa using hf
structure CtG where
  i : Nat
  H : Hp
  v : Value
  lv : List (Nat × Obj)
  R : List Rw
set_option maxHeartbeats 4000000 in
theorem count_in (c : Cp) (lb : List ByteArray) (vl : Value) (ms : List Mt) (vm : Value) (gs : List Gp) (vg : Value) (H : Hp) (hT : PowT H) (hc : CpL H c) (hw : CpW c) (hlb : StL H vl lb) (hll : lb.length ≤ 1000) (hm : MtL H vm ms) (hms : ms.length ≤ 1000) (hml : ∀ m ∈ ms, m.ls.length ≤ 1000) (hg : GpL H vg gs) (hgl : gs.length ≤ 1000) :
    Fn Tryd.prog 23 #[cpV c, vl, vm, vg] H (fun u H' => ∃ v A, u = .tuple #[v, .int .i64 (countE c lb ms gs)] ∧ RwL H' v A ∧ (countE c lb ms gs = 0 → A.map rwK = countR c lb ms gs) ∧ (countE c lb ms gs ≠ 0 → A = [])) := by
  have hch := check_in c lb gs vl vg H hc hlb hg hll (by omega)
  obtain ⟨ab, cb, rfl⟩ := hlb.len
  obtain ⟨ag, cg, rfl⟩ := hg.len
  obtain ⟨am, cm, rfl⟩ := hm.1.len
  unfold cpV at hch
  unfold cpV
  refine Fn.of_T (vs := [.agg #[c.va, c.vt, c.vx, c.vr, c.vn, c.vh, c.vs], .slice ab lb.length cb, .slice am ms.length cm, .slice ag gs.length cg]) Tryd.func23 rfl rfl fun w => ?_
  by_cases he : grpErr c lb gs = 0
  · have hce : countE c lb ms gs = if ms.all (okM c lb) then 0 else 8 := by unfold countE; rw [if_neg (by omega)]
    have hgl4 := grpErr_len he
    refine zs3 ?_; (refine T.box Wanted.none rfl rfl zq15 ?_; intro b4); refine sa ?_; refine sa ?_; refine so ?_; refine sq ?_; refine zs3 ?_; refine sv (PV.loadAll rfl zq0 (by exact rfl)) ?_; refine sm ?_; refine sm ?_; refine T.callV Wanted.none rfl rfl (hch) ?_; refine sa ?_; refine zs1 ?_; refine sm ?_; refine sv (PV.neq rfl rfl) ?_; refine so ?_; refine sd rfl (by omega) ?_; refine T.skip ?_; refine zs3 ?_; refine sa ?_; refine so ?_; refine sq ?_; refine zs3 ?_; refine sm ?_; refine sv (PV.lenSl rfl) ?_; refine sm ?_; refine so ?_; refine T.block ?_; refine T.loopK [(24, Value.int IntKind.i64 (↑ms.length : Int)), (23, Value.slice am ms.length cm), (4, Value.pointer (some { block := b4, off := 0 })), (1, Value.slice ab lb.length cb), (3, Value.slice ag gs.length cg)] zq8 (γ := CtG) (fun g => g.i ≤ ms.length ∧ H.le g.H ∧ RowV 34 encRw 2 g.v g.lv g.R ∧ (∀ r ∈ g.R, RwOk g.H r) ∧ g.R.map rwK = (ms.take g.i).map (rowK c lb gs) ∧ (ms.take g.i).all (okM c lb) = true) (fun g => [(25, .int .i64 (g.i : Int)), (11, g.v)]) (fun g => g.lv ++ [(b4, .cells #[c.va, c.vt, c.vx, c.vr, c.vn, c.vh, c.vs] 55 (0, 0))]) (fun g => g.H) (fun g => ms.length - g.i) ⟨0, H, .slice none 0 0, [], []⟩ ⟨by simp, Hp.le.refl _, Vec.nil _ _, by simp, by simp, by simp⟩ zq8 (by repeat (first | exact Sel.refl _ | exact Sel.nil | (refine Sel.cons zq1 ?_) | (refine Sel.app zq1 ?_) | exact Sel.one zq1)) rfl ?_
    rintro ⟨i, H2, v, lv, R⟩ ⟨g1, g2, g3, g4, g5, g6⟩
    dsimp only at g1 g2 g3 g4 g5 g6 ⊢
    obtain ⟨adv, capv, rfl⟩ := g3.val
    have hRl : R.length = i := by have := congrArg List.length g5; rw [List.length_map, List.length_map, List.length_take] at this; omega
    by_cases hi : i < ms.length
    · obtain ⟨bx, off, m, rfl, hix, hsub⟩ := RowL.get encM_len (hm.1.mono g2) hi
      have hmm := List.mem_of_getElem? hix
      have hmo := (hm.2 m hmm).mono g2
      have hmll := hml m hmm
      have hfi := fits_in c m H2 (hc.mono g2) hw hmo hmll
      have hke := keys_in c lb (.slice ab lb.length cb) m gs (.slice ag gs.length cg) H2 (hT.mono g2) (hc.mono g2) hw (hlb.mono g2) hmo hmll (hg.mono g2) hgl
      obtain ⟨a1, c1, hmv⟩ := hmo.1.len
      unfold encM at hsub
      rw [hmv] at hsub
      unfold cpV mtV at hfi hke
      rw [hmv] at hfi hke
      cases hf : fitO c m with
      | none =>
        rw [hf] at hfi
        change Fn _ _ _ _ (fun u _ => u = .tuple #[.agg #[.string (bs []), .int .i64 0, .int .i64 0, .slice none 0 0], .bool false]) at hfi
        have hno := all_no hix (show okM c lb m = false by unfold okM; rw [hf]; rfl)
        rw [if_neg hno] at hce
        refine zs3 ?_; refine sv (PV.lss rfl rfl) ?_; refine so ?_; refine sq ?_; refine sc rfl (by omega) ?_; refine T.skip ?_; refine sq ?_; refine T.block ?_; refine zs3 ?_; refine sv (PV.indexAddr rfl rfl (by omega)) ?_; refine sv (PV.loadSubAll rfl (by assumption) (by exact rfl)) ?_; refine sy fun b13 => ?_; refine T.storeA Wanted.none rfl rfl zq8 (by exact rfl) zq14 zq13 ?_; refine so ?_; refine sq ?_; refine zs3 ?_; refine sv (PV.loadAll rfl zq0 (by exact rfl)) ?_; refine sv (PV.loadAll rfl zq0 (by exact rfl)) ?_; refine T.callV Wanted.none rfl rfl (hfi) ?_; refine sm ?_; refine sv (PV.extract rfl rfl) ?_; refine sv (PV.extract rfl rfl) ?_; refine sy fun b14 => ?_; refine T.storeA Wanted.none rfl rfl zq8 (by exact rfl) zq14 zq13 ?_; refine sa ?_; refine zs1 ?_; refine sm ?_; refine sv (PV.not rfl) ?_; refine sm ?_; refine sp ?_; refine sp ?_; refine sp ?_; refine sp ?_; refine sp ?_; refine sp ?_; refine sT ?_; refine so ?_; refine T.condT rfl rfl ?_; refine zs3 ?_; refine sa ?_
        refine sa ?_; refine so ?_
        exact T.retF (Lv.fin (RV.tmp2 rfl rfl rfl) ⟨_, [], by rw [hce], ⟨SlR.empty, by simp⟩, fun h => absurd (hce.symm.trans h) (by omega), fun _ => rfl⟩)
      | some t =>
        have hrg := (hc.x.2 t (fitO_some hw hf).1).mono g2
        obtain ⟨at1, ct, hkv⟩ := hrg.1.len
        rw [hf, Option.getD_some] at hfi
        unfold rgV at hfi
        rw [hkv] at hfi
        change Fn _ _ _ _ (fun u _ => u = .tuple #[.agg #[.string t.ty, .int .i64 t.b, .int .i64 t.e, .slice at1 t.ks.length ct], .bool true]) at hfi
        by_cases hq : m.ls.length = lb.length
        · have hok : okM c lb m = true := by unfold okM; rw [hf, decide_eq_true hq]; rfl
          have hqd : decide ((m.ls.length : Int) ≠ (lb.length : Int)) = false := decide_eq_false (by omega)
          refine zs3 ?_; refine sv (PV.lss rfl rfl) ?_; refine so ?_; refine sq ?_; refine sc rfl (by omega) ?_; refine T.skip ?_; refine sq ?_; refine T.block ?_; refine zs3 ?_; refine sv (PV.indexAddr rfl rfl (by omega)) ?_; refine sv (PV.loadSubAll rfl (by assumption) (by exact rfl)) ?_; refine sy fun b13 => ?_; refine T.storeA Wanted.none rfl rfl zq8 (by exact rfl) zq14 zq13 ?_; refine so ?_; refine sq ?_; refine zs3 ?_; refine sv (PV.loadAll rfl zq0 (by exact rfl)) ?_; refine sv (PV.loadAll rfl zq0 (by exact rfl)) ?_; refine T.callV Wanted.none rfl rfl (hfi) ?_; refine sm ?_; refine sv (PV.extract rfl rfl) ?_; refine sv (PV.extract rfl rfl) ?_; refine sy fun b14 => ?_; refine T.storeA Wanted.none rfl rfl zq8 (by exact rfl) zq14 zq13 ?_; refine sa ?_; refine zs1 ?_; refine sm ?_; refine sv (PV.not rfl) ?_; refine sm ?_; refine gf ?_; refine gl ?_; refine gv (PV.lenSl rfl) ?_; refine gm ?_; refine gv (PV.lenSl rfl) ?_; refine gv (PV.neq rfl rfl) ?_; refine sF ?_; refine so ?_; refine T.condF rfl (by assumption) ?_; refine T.skip ?_; refine sr ?_
          refine sm ?_; refine sv (PV.loadAll rfl zq0 (by exact rfl)) ?_; refine sm ?_; refine sv (PV.loadAll rfl zq0 (by exact rfl)) ?_; refine sm ?_; (refine T.call Wanted.none rfl rfl hke ?_; intro vk H3 h3 hvk; obtain ⟨ak, ck, rfl⟩ := hvk.len); refine sv (PV.build rfl zq12) ?_; (refine T.buildSlice Wanted.none rfl rfl zq11 (by exact rfl) (by exact rfl) ?_; intro b52); (refine T.appendP (lv := lv) Wanted.none rfl rfl rfl g3 (Src.cells (m := 1) (ys := [.slice ak (keysO c lb m gs).length ck, .int .i64 1]) (.own zq2) rfl rfl) (by intro v hv; simp only [List.mem_cons, List.not_mem_nil, or_false] at hv; rcases hv with rfl | rfl <;> rfl) (by omega) zq1 ?_; intro v53 lv53 hv53 _; obtain ⟨ad53, cap53, rfl⟩ := hv53.val); refine sa ?_; refine so ?_; refine T.blkEnd ?_; refine sr ?_; refine sv (PV.add rfl rfl (by omega)) ?_; refine sm ?_; refine so ?_
          have hkl := keysO_len (c := c) (lb := lb) (m := m) (gs := gs)
          have hks := keysO_size (lb := lb) (m := m) (gs := gs) hc hw
          have hnew : RwOk H3 ⟨.slice ak (keysO c lb m gs).length ck, keysO c lb m gs, 1⟩ := ⟨hvk, by show (keysO c lb m gs).length ≤ 1000; omega, by have := joinL_bound _ hks; show (joinL (keysO c lb m gs)).length ≤ _; have h9 : (keysO c lb m gs).length * 1000100 ≤ 4 * 1000100 := Nat.mul_le_mul_right _ (by omega); omega⟩
          refine T.nextP ⟨i + 1, H3, _, lv53, R ++ [⟨.slice ak (keysO c lb m gs).length ck, keysO c lb m gs, 1⟩]⟩ ⟨by dsimp only; omega, g2.trans h3, RowV.snoc hv53, fun x hx => ?_, by dsimp only; rw [map_snoc hix, List.map_append, g5]; rfl, all_drop g6 hix hok⟩ (by dsimp only; omega) zq8 (by repeat (first | exact Sel.refl _ | exact Sel.nil | (refine Sel.cons zq1 ?_) | (refine Sel.app zq1 ?_) | exact Sel.one zq1)) rfl
          rcases List.mem_append.1 hx with hx | hx
          · exact (g4 x hx).mono h3
          · rw [List.mem_singleton] at hx; subst hx; exact hnew
        · have hno := all_no hix (show okM c lb m = false by unfold okM; rw [hf, decide_eq_false hq]; rfl)
          have hqd : decide ((m.ls.length : Int) ≠ (lb.length : Int)) = true := decide_eq_true (by omega)
          rw [if_neg hno] at hce
          refine zs3 ?_; refine sv (PV.lss rfl rfl) ?_; refine so ?_; refine sq ?_; refine sc rfl (by omega) ?_; refine T.skip ?_; refine sq ?_; refine T.block ?_; refine zs3 ?_; refine sv (PV.indexAddr rfl rfl (by omega)) ?_; refine sv (PV.loadSubAll rfl (by assumption) (by exact rfl)) ?_; refine sy fun b13 => ?_; refine T.storeA Wanted.none rfl rfl zq8 (by exact rfl) zq14 zq13 ?_; refine so ?_; refine sq ?_; refine zs3 ?_; refine sv (PV.loadAll rfl zq0 (by exact rfl)) ?_; refine sv (PV.loadAll rfl zq0 (by exact rfl)) ?_; refine T.callV Wanted.none rfl rfl (hfi) ?_; refine sm ?_; refine sv (PV.extract rfl rfl) ?_; refine sv (PV.extract rfl rfl) ?_; refine sy fun b14 => ?_; refine T.storeA Wanted.none rfl rfl zq8 (by exact rfl) zq14 zq13 ?_; refine sa ?_; refine zs1 ?_; refine sm ?_; refine sv (PV.not rfl) ?_; refine sm ?_; refine gf ?_; refine gl ?_; refine gv (PV.lenSl rfl) ?_; refine gm ?_; refine gv (PV.lenSl rfl) ?_; refine gv (PV.neq rfl rfl) ?_; refine sF ?_; refine so ?_; refine T.condT rfl (by assumption) ?_; refine zs3 ?_; refine sa ?_
          refine sa ?_; refine so ?_
          exact T.retF (Lv.fin (RV.tmp2 rfl rfl rfl) ⟨_, [], by rw [hce], ⟨SlR.empty, by simp⟩, fun h => absurd (hce.symm.trans h) (by omega), fun _ => rfl⟩)
    · rw [List.take_of_length_le (by omega)] at g5 g6
      rw [if_pos g6] at hce
      have hR0 : ∀ r ∈ R, r.n = 1 := fun r hr => by
        have h1 : rwK r ∈ R.map rwK := List.mem_map_of_mem hr
        rw [g5] at h1
        obtain ⟨m, _, h2⟩ := List.mem_map.1 h1
        have := congrArg Prod.snd h2
        exact this.symm
      refine zs3 ?_; refine sv (PV.lss rfl rfl) ?_; refine so ?_; refine sq ?_; refine sd rfl (by omega) ?_; refine T.exit rfl ?_; refine T.freezeP (lv := lv) g3 zq1 ?_
      intro H3 h3 hs3
      have hRL : RwL H3 (.slice adv R.length capv) R := ⟨hs3, fun r hr => (g4 r hr).mono h3⟩
      refine zs3 ?_; refine sm ?_; (refine T.call Wanted.none rfl rfl (sum_fn R _ H3 (hT.mono (g2.trans h3)) hRL (by omega) (fun r hr => by rw [hR0 r hr]; omega)) ?_; rintro vs H4 h4 ⟨A, hA, hAs⟩; obtain ⟨az, cz, rfl⟩ := hA.1.len); refine sa ?_; refine sa ?_; refine so ?_
      exact T.retF (Lv.fin (RV.tmp2 rfl rfl rfl) ⟨_, A, by rw [hce], hA, fun _ => by rw [hAs, g5]; rfl, fun h => absurd hce h⟩)
  · have hce : countE c lb ms gs = grpErr c lb gs := by unfold countE; rw [if_pos he]
    refine zs3 ?_; (refine T.box Wanted.none rfl rfl zq15 ?_; intro b4); refine sa ?_; refine sa ?_; refine so ?_; refine sq ?_; refine zs3 ?_; refine sv (PV.loadAll rfl zq0 (by exact rfl)) ?_; refine sm ?_; refine sm ?_; refine T.callV Wanted.none rfl rfl (hch) ?_; refine sa ?_; refine zs1 ?_; refine sm ?_; refine sv (PV.neq rfl rfl) ?_; refine so ?_; refine sc rfl (by omega) ?_; refine zs3 ?_; refine sm ?_; refine sa ?_; refine sa ?_; refine so ?_
    exact T.retF (Lv.fin (RV.tmp2 rfl rfl rfl) ⟨_, [], by rw [hce], ⟨SlR.empty, by simp⟩, fun h => absurd (hce.symm.trans h) he, fun _ => rfl⟩)

end Go.Proofs.YthacphfjchpoaaaDoor
namespace Go.Proofs.YthacphfjchpoaaaDoor
open Go.RowKit


end Go.Proofs.YthacphfjchpoaaaDoor
