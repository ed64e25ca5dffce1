/- table: Count: the program.
   table: Count: the reference. -/
import Derived.Test.YthacphfjchpoaaaGreatDoorGL
import Derived.Test.YthacphfjchpoaaaGreatDoorGH
namespace Go.Proofs.YthacphfjchpoaaaGreatDoor
open Go.RowKit

theorem ofP_size {H : Hp} {v : Value} {l : List (ByteArray × ByteArray)} (h : PrL H v l) (nm : ByteArray) : (ofP l nm).size ≤ 1000000 := by
  unfold ofP
  cases hf : l.find? fun p => decide (p.1 = nm) with
  | none => show (bs []).size ≤ 1000000; decide
  | some p => exact h.2.2 p (List.mem_of_find?_eq_some hf)
theorem valO_size {c : Cp} {H : Hp} {lb : List ByteArray} {m : Mt} {t : Rg} {g : Gp} (hc : CpL H c) (hw : CpW c) (hf : fitO c m = some t) : (valO c lb m (kyG g)).size ≤ 1000000 := by
  unfold valO
  rw [hf]
  dsimp only
  have hatr := attI_range c.att (kyG g).nm
  split
  · show (bs []).size ≤ 1000000; decide
  · rename_i h
    obtain ⟨_, s, _, _, e3, _, _, e6⟩ := tokAt c H hc hw (posP_range (fitP hw hf) fun h' => h (.inr (.inr h'))) (a := attI c.att (kyG g).nm) (by omega)
    rw [e3]
    show s.size ≤ 1000000
    omega
theorem keyO_size {c : Cp} {H : Hp} {lb : List ByteArray} {m : Mt} {t : Rg} {g : Gp} (hc : CpL H c) (hw : CpW c) (hf : fitO c m = some t) : (keyO c lb m t g).size ≤ 1000000 := by
  unfold keyO
  split
  · exact valO_size hc hw hf
  · split
    · exact ofP_size (hc.x.2 t (fitO_some hw hf).1) _
    · split
      · split
        · show (bs []).size ≤ 1000000; decide
        · rename_i h
          obtain ⟨k, r, e1, e2, e3, e4⟩ := lastAt hc.r h
          rw [e3]
          exact ofP_size e4 _
      · split
        · have hfp := fitP hw hf
          have h1 := hc.lt
          have h2 := hfp.t0
          have h3 := hfp.tb
          have h4 := hfp.be
          have h5 := hfp.et
          have h6 := hfp.tn
          have := itoaB_size (m.e - m.b) (by omega)
          omega
        · show (bs []).size ≤ 1000000; decide
theorem keysO_size {c : Cp} {H : Hp} {lb : List ByteArray} {m : Mt} {gs : List Gp} (hc : CpL H c) (hw : CpW c) : ∀ k ∈ keysO c lb m gs, k.size ≤ 1000000 := by
  intro k hk
  unfold keysO at hk
  cases hf : fitO c m with
  | none => rw [hf] at hk; cases hk
  | some t =>
    rw [hf] at hk
    obtain ⟨g, _, rfl⟩ := List.mem_map.1 hk
    exact keyO_size hc hw hf
theorem keysO_len {c : Cp} {lb : List ByteArray} {m : Mt} {gs : List Gp} : (keysO c lb m gs).length ≤ gs.length := by
  unfold keysO
  split
  · simp
  · simp
theorem joinL_bound : ∀ (ks : List ByteArray), (∀ k ∈ ks, k.size ≤ 1000000) → (joinL ks).length ≤ ks.length * 1000100
  | [], _ => Nat.zero_le _
  | k :: ks, h => by
    have h1 := joinL_bound ks fun x hx => h x (List.mem_cons_of_mem _ hx)
    have h2 := h k (List.mem_cons_self ..)
    have h3 := Lib.itoa_length_le (k.size : Int) (by omega) (by omega)
    rw [Lib.itoa_nonneg] at h3
    have h4 : k.data.toList.length = k.size := Array.length_toList
    rw [joinL]
    simp only [List.length_append, List.length_cons]
    rw [h4, Nat.add_mul]
    omega
/-- whether a match counts -/
def okM (c : Cp) (lb : List ByteArray) (m : Mt) : Bool := (fitO c m).isSome && decide (m.ls.length = lb.length)
def rowK (c : Cp) (lb : List ByteArray) (gs : List Gp) (m : Mt) : RK := (keysO c lb m gs, 1)
def countE (c : Cp) (lb : List ByteArray) (ms : List Mt) (gs : List Gp) : Int :=
  if grpErr c lb gs ≠ 0 then grpErr c lb gs else if ms.all (okM c lb) then 0 else 8
def countR (c : Cp) (lb : List ByteArray) (ms : List Mt) (gs : List Gp) : List RK := sumR (ms.map (rowK c lb gs))
theorem all_no {α : Type} {f : α → Bool} {l : List α} {i : Nat} {x : α} (h : l[i]? = some x) (hf : f x = false) : ¬ l.all f = true := fun ha => by
  rw [List.all_eq_true.1 ha x (List.mem_of_getElem? h)] at hf; cases hf
theorem all_drop {α : Type} {f : α → Bool} {l : List α} {i : Nat} {x : α} (h : (l.take i).all f = true) (hx : l[i]? = some x) (hf : f x = true) : (l.take (i + 1)).all f = true := by
  rw [List.take_add_one, hx, List.all_append, h]; simpa using hf
structure CtG where
  i : Nat
  H : Hp
  v : Value
  lv : List (Nat × Obj)
  R : List Rw
set_option maxHeartbeats 4000000 in
theorem count_in (c : Cp) (lb : List ByteArray) (vl : Value) (ms : List Mt) (vm : Value) (gs : List Gp) (vg : Value) (H : Hp) (hT : PowT H) (hc : CpL H c) (hw : CpW c) (hlb : StL H vl lb) (hll : lb.length ≤ 1000) (hm : MtL H vm ms) (hms : ms.length ≤ 1000) (hml : ∀ m ∈ ms, m.ls.length ≤ 1000) (hg : GpL H vg gs) (hgl : gs.length ≤ 1000) :
    Fn Tryz.prog 13 #[cpV c, vl, vm, vg] H (fun u H' => ∃ v A, u = .tuple #[v, .int .i64 (countE c lb ms gs)] ∧ RwL H' v A ∧ (countE c lb ms gs = 0 → A.map rwK = countR c lb ms gs) ∧ (countE c lb ms gs ≠ 0 → A = [])) := by
  have hch := check_in c lb gs vl vg H hc hlb hg hll (by omega)
  obtain ⟨ab, cb, rfl⟩ := hlb.len
  obtain ⟨ag, cg, rfl⟩ := hg.len
  obtain ⟨am, cm, rfl⟩ := hm.1.len
  unfold cpV at hch
  unfold cpV
  refine Fn.of_T (vs := [.agg #[c.va, c.vt, c.vx, c.vr, c.vn, c.vh, c.vs], .slice ab lb.length cb, .slice am ms.length cm, .slice ag gs.length cg]) Tryz.func13 rfl rfl fun w => ?_
  by_cases he : grpErr c lb gs = 0
  · have hce : countE c lb ms gs = if ms.all (okM c lb) then 0 else 8 := by unfold countE; rw [if_neg (by omega)]
    have hgl4 := grpErr_len he
    refine zs3 ?_; (refine T.box Wanted.none rfl rfl zq15 ?_; intro b4); refine yq55 ?_; refine sq ?_; refine yq52 ?_; refine yq162 ?_; refine T.callV Wanted.none rfl rfl (hch) ?_; refine yq147 ?_; refine yq88 ?_; refine yq25 ?_; refine yq112 ?_; refine T.loopK [(24, Value.int IntKind.i64 (↑ms.length : Int)), (23, Value.slice am ms.length cm), (4, Value.pointer (some { block := b4, off := 0 })), (1, Value.slice ab lb.length cb), (3, Value.slice ag gs.length cg)] zq8 (γ := CtG) (fun g => g.i ≤ ms.length ∧ H.le g.H ∧ RowV 52 encRw 2 g.v g.lv g.R ∧ (∀ r ∈ g.R, RwOk g.H r) ∧ g.R.map rwK = (ms.take g.i).map (rowK c lb gs) ∧ (ms.take g.i).all (okM c lb) = true) (fun g => [(25, .int .i64 (g.i : Int)), (11, g.v)]) (fun g => g.lv ++ [(b4, .cells #[c.va, c.vt, c.vx, c.vr, c.vn, c.vh, c.vs] 32 (0, 0))]) (fun g => g.H) (fun g => ms.length - g.i) ⟨0, H, .slice none 0 0, [], []⟩ ⟨by simp, Hp.le.refl _, Vec.nil _ _, by simp, by simp, by simp⟩ zq8 (by repeat (first | exact Sel.refl _ | exact Sel.nil | (refine Sel.cons zq1 ?_) | (refine Sel.app zq1 ?_) | exact Sel.one zq1)) rfl ?_
    rintro ⟨i, H2, v, lv, R⟩ ⟨g1, g2, g3, g4, g5, g6⟩
    dsimp only at g1 g2 g3 g4 g5 g6 ⊢
    obtain ⟨adv, capv, rfl⟩ := g3.val
    have hRl : R.length = i := by have := congrArg List.length g5; rw [List.length_map, List.length_map, List.length_take] at this; omega
    by_cases hi : i < ms.length
    · obtain ⟨bx, off, m, rfl, hix, hsub⟩ := RowL.get encM_len (hm.1.mono g2) hi
      have hmm := List.mem_of_getElem? hix
      have hmo := (hm.2 m hmm).mono g2
      have hmll := hml m hmm
      have hfi := fits_in c m H2 (hc.mono g2) hw hmo hmll
      have hke := keys_in c lb (.slice ab lb.length cb) m gs (.slice ag gs.length cg) H2 (hT.mono g2) (hc.mono g2) hw (hlb.mono g2) hmo hmll (hg.mono g2) hgl
      obtain ⟨a1, c1, hmv⟩ := hmo.1.len
      unfold encM at hsub
      rw [hmv] at hsub
      unfold cpV mtV at hfi hke
      rw [hmv] at hfi hke
      cases hf : fitO c m with
      | none =>
        rw [hf] at hfi
        change Fn _ _ _ _ (fun u _ => u = .tuple #[.agg #[.string (bs []), .int .i64 0, .int .i64 0, .slice none 0 0], .bool false]) at hfi
        have hno := all_no hix (show okM c lb m = false by unfold okM; rw [hf]; rfl)
        rw [if_neg hno] at hce
        refine yq110 ?_; refine sy fun b13 => ?_; refine yq13 ?_; refine sq ?_; refine zs3 ?_; refine yq20 ?_; refine T.callV Wanted.none rfl rfl (hfi) ?_; refine yq146 ?_; refine sy fun b14 => ?_; refine T.storeA Wanted.none rfl rfl zq8 (by exact rfl) zq14 zq13 ?_; refine yq56 ?_; refine yq107 ?_; refine yq149 ?_; refine yq157 ?_; refine zs3 ?_; refine sa ?_
        refine yq0 ?_
        exact T.retF (Lv.fin (RV.tmp2 rfl rfl rfl) ⟨_, [], by rw [hce], ⟨SlR.empty, by simp⟩, fun h => absurd (hce.symm.trans h) (by omega), fun _ => rfl⟩)
      | some t =>
        have hrg := (hc.x.2 t (fitO_some hw hf).1).mono g2
        obtain ⟨at1, ct, hkv⟩ := hrg.1.len
        rw [hf, Option.getD_some] at hfi
        unfold rgV at hfi
        rw [hkv] at hfi
        change Fn _ _ _ _ (fun u _ => u = .tuple #[.agg #[.string t.ty, .int .i64 t.b, .int .i64 t.e, .slice at1 t.ks.length ct], .bool true]) at hfi
        by_cases hq : m.ls.length = lb.length
        · have hok : okM c lb m = true := by unfold okM; rw [hf, decide_eq_true hq]; rfl
          have hqd : decide ((m.ls.length : Int) ≠ (lb.length : Int)) = false := decide_eq_false (by omega)
          refine yq110 ?_; refine sy fun b13 => ?_; refine yq13 ?_; refine sq ?_; refine zs3 ?_; refine yq20 ?_; refine T.callV Wanted.none rfl rfl (hfi) ?_; refine yq146 ?_; refine sy fun b14 => ?_; refine T.storeA Wanted.none rfl rfl zq8 (by exact rfl) zq14 zq13 ?_; refine yq56 ?_; refine yq107 ?_; refine yq96 ?_; refine yq114 ?_; refine yq160 ?_; refine so ?_; refine yq108 ?_; refine sr ?_
          refine yq138 ?_; refine yq138 ?_; refine sm ?_; (refine T.call Wanted.none rfl rfl hke ?_; intro vk H3 h3 hvk; obtain ⟨ak, ck, rfl⟩ := hvk.len); refine sv (PV.build rfl zq12) ?_; (refine T.buildSlice Wanted.none rfl rfl zq11 (by exact rfl) (by exact rfl) ?_; intro b52); (refine T.appendP (lv := lv) Wanted.none rfl rfl rfl g3 (Src.cells (m := 1) (ys := [.slice ak (keysO c lb m gs).length ck, .int .i64 1]) (.own zq2) rfl rfl) (by intro v hv; simp only [List.mem_cons, List.not_mem_nil, or_false] at hv; rcases hv with rfl | rfl <;> rfl) (by omega) zq1 ?_; intro v53 lv53 hv53 _; obtain ⟨ad53, cap53, rfl⟩ := hv53.val); refine yq0 ?_; refine yq61 ?_
          have hkl := keysO_len (c := c) (lb := lb) (m := m) (gs := gs)
          have hks := keysO_size (lb := lb) (m := m) (gs := gs) hc hw
          have hnew : RwOk H3 ⟨.slice ak (keysO c lb m gs).length ck, keysO c lb m gs, 1⟩ := ⟨hvk, by show (keysO c lb m gs).length ≤ 1000; omega, by have := joinL_bound _ hks; show (joinL (keysO c lb m gs)).length ≤ _; have h9 : (keysO c lb m gs).length * 1000100 ≤ 4 * 1000100 := Nat.mul_le_mul_right _ (by omega); omega⟩
          refine T.nextP ⟨i + 1, H3, _, lv53, R ++ [⟨.slice ak (keysO c lb m gs).length ck, keysO c lb m gs, 1⟩]⟩ ⟨by dsimp only; omega, g2.trans h3, RowV.snoc hv53, fun x hx => ?_, by dsimp only; rw [map_snoc hix, List.map_append, g5]; rfl, all_drop g6 hix hok⟩ (by dsimp only; omega) zq8 (by repeat (first | exact Sel.refl _ | exact Sel.nil | (refine Sel.cons zq1 ?_) | (refine Sel.app zq1 ?_) | exact Sel.one zq1)) rfl
          rcases List.mem_append.1 hx with hx | hx
          · exact (g4 x hx).mono h3
          · rw [List.mem_singleton] at hx; subst hx; exact hnew
        · have hno := all_no hix (show okM c lb m = false by unfold okM; rw [hf, decide_eq_false hq]; rfl)
          have hqd : decide ((m.ls.length : Int) ≠ (lb.length : Int)) = true := decide_eq_true (by omega)
          rw [if_neg hno] at hce
          refine yq110 ?_; refine sy fun b13 => ?_; refine yq13 ?_; refine sq ?_; refine zs3 ?_; refine yq20 ?_; refine T.callV Wanted.none rfl rfl (hfi) ?_; refine yq146 ?_; refine sy fun b14 => ?_; refine T.storeA Wanted.none rfl rfl zq8 (by exact rfl) zq14 zq13 ?_; refine yq56 ?_; refine yq107 ?_; refine yq96 ?_; refine yq114 ?_; refine yq160 ?_; refine so ?_; refine T.condT rfl (by assumption) ?_; refine zs3 ?_; refine sa ?_
          refine yq0 ?_
          exact T.retF (Lv.fin (RV.tmp2 rfl rfl rfl) ⟨_, [], by rw [hce], ⟨SlR.empty, by simp⟩, fun h => absurd (hce.symm.trans h) (by omega), fun _ => rfl⟩)
    · rw [List.take_of_length_le (by omega)] at g5 g6
      rw [if_pos g6] at hce
      have hR0 : ∀ r ∈ R, r.n = 1 := fun r hr => by
        have h1 : rwK r ∈ R.map rwK := List.mem_map_of_mem hr
        rw [g5] at h1
        obtain ⟨m, _, h2⟩ := List.mem_map.1 h1
        have := congrArg Prod.snd h2
        exact this.symm
      refine yq74 ?_; refine T.freezeP (lv := lv) g3 zq1 ?_
      intro H3 h3 hs3
      have hRL : RwL H3 (.slice adv R.length capv) R := ⟨hs3, fun r hr => (g4 r hr).mono h3⟩
      refine yq2 ?_; (refine T.call Wanted.none rfl rfl (sum_fn R _ H3 (hT.mono (g2.trans h3)) hRL (by omega) (fun r hr => by rw [hR0 r hr]; omega)) ?_; rintro vs H4 h4 ⟨A, hA, hAs⟩; obtain ⟨az, cz, rfl⟩ := hA.1.len); refine yq55 ?_
      exact T.retF (Lv.fin (RV.tmp2 rfl rfl rfl) ⟨_, A, by rw [hce], hA, fun _ => by rw [hAs, g5]; rfl, fun h => absurd hce h⟩)
  · have hce : countE c lb ms gs = grpErr c lb gs := by unfold countE; rw [if_pos he]
    refine zs3 ?_; (refine T.box Wanted.none rfl rfl zq15 ?_; intro b4); refine yq55 ?_; refine sq ?_; refine yq52 ?_; refine yq162 ?_; refine T.callV Wanted.none rfl rfl (hch) ?_; refine yq147 ?_; refine yq46 ?_; refine yq2 ?_; refine yq55 ?_
    exact T.retF (Lv.fin (RV.tmp2 rfl rfl rfl) ⟨_, [], by rw [hce], ⟨SlR.empty, by simp⟩, fun h => absurd (hce.symm.trans h) he, fun _ => rfl⟩)
end Go.Proofs.YthacphfjchpoaaaGreatDoor
namespace Go.Proofs.YthacphfjchpoaaaGreatDoor
open Go.RowKit

theorem knownG_fn (l : List ByteArray) (s : ByteArray) (v : Value) (H : Hp) (hv : StL H v l) (hl : l.length ≤ 1000) : Fn Tryz.prog 37 #[v, .string s] H (fun u _ => u = .bool (l.any fun x => decide (x = s))) := by
  obtain ⟨ad, cap, rfl⟩ := hv.len
  refine Fn.of_T (vs := [.slice ad l.length cap, .string s]) Tryz.func37 rfl rfl fun w => ?_; refine yq25 ?_; refine yq112 ?_; refine T.loopC [(8, Value.int IntKind.i64 (↑l.length : Int)), (7, Value.slice ad l.length cap), (1, Value.string s)] zq8 9 l.length (fun i => (l.take i).any (fun x => decide (x = s)) = false) rfl rfl ?_
  rintro i ⟨hi0, hi1⟩
  by_cases hi : i < l.length
  · obtain ⟨b, off, x, rfl, hix, hsub⟩ := RowL.get encT_len hv hi
    unfold encT at hsub
    by_cases he : x = s
    · refine yq82 ?_; refine yq15 ?_; refine yq56 ?_; refine sm ?_; refine sv (PV.seql rfl rfl) ?_; refine yq46 ?_; refine yq25 ?_
      exact T.retF (Lv.fin (RV.tmp rfl rfl) (by rw [any_inG hix (decide_eq_true he)]))
    · refine yq82 ?_; refine yq15 ?_; refine yq56 ?_; refine sm ?_; refine sv (PV.seql rfl rfl) ?_; refine yq88 ?_; refine yq61 ?_
      exact T.nextC hi (ixI_drop hi1 hix (decide_eq_false he)) rfl zq8 (by repeat (first | exact Sel.refl _ | exact Sel.nil | (refine Sel.cons zq1 ?_) | (refine Sel.app zq1 ?_) | exact Sel.one zq1))
  · rw [List.take_of_length_le (by omega)] at hi1
    refine yq195 ?_
    exact T.retF (Lv.fin (RV.tmp rfl rfl) (by rw [hi1]))
theorem countE_grp {c : Cp} {lb : List ByteArray} {ms : List Mt} {gs : List Gp} {z : Int} (h : grpErr c lb gs = z) (hz : z ≠ 0) : countE c lb ms gs = z := by
  unfold countE
  rw [if_pos (by rw [h]; exact hz), h]
set_option maxHeartbeats 4000000 in
theorem count_ref (c : Cp) (lb : List ByteArray) (vl : Value) (ms : List Mt) (vm : Value) (gs : List Gp) (vg : Value) (H : Hp) (hc : CpL H c) (hw : CpW c) (hlb : StL H vl lb) (hll : lb.length ≤ 1000) (hm : MtL H vm ms) (hms : ms.length ≤ 1000) (hml : ∀ m ∈ ms, m.ls.length ≤ 1000) (hg : GpL H vg gs) (hgl : gs.length ≤ 1000) :
    Fn Tryz.prog 15 #[cpV c, vl, vm, vg] H (fun u H' => ∃ v A, u = .tuple #[v, .int .i64 (countE c lb ms gs)] ∧ RwL H' v A ∧ (countE c lb ms gs = 0 → A.map rwK = countR c lb ms gs) ∧ (countE c lb ms gs ≠ 0 → A = [])) := by
  obtain ⟨ab, cb, rfl⟩ := hlb.len
  obtain ⟨ag, cg, rfl⟩ := hg.len
  obtain ⟨am, cm, rfl⟩ := hm.1.len
  unfold cpV
  refine Fn.of_T (vs := [.agg #[c.va, c.vt, c.vx, c.vr, c.vn, c.vh, c.vs], .slice ab lb.length cb, .slice am ms.length cm, .slice ag gs.length cg]) Tryz.func15 rfl rfl fun w => ?_
  have hend : ∀ z : Int, z ≠ 0 → countE c lb ms gs = z → ∀ H' : Hp, ∃ v A, (.tuple #[.slice none 0 0, .int .i64 z] : Value) = .tuple #[v, .int .i64 (countE c lb ms gs)] ∧ RwL H' v A ∧ (countE c lb ms gs = 0 → A.map rwK = countR c lb ms gs) ∧ (countE c lb ms gs ≠ 0 → A = []) :=
    fun z hz he H' => ⟨_, [], by rw [he], ⟨SlR.empty, by simp⟩, fun h => absurd (he.symm.trans h) hz, fun _ => rfl⟩
  by_cases h1 : gs.length < 1
  · refine zs3 ?_; (refine T.box Wanted.none rfl rfl zq15 ?_; intro b4); refine yq55 ?_; refine yq27 ?_; refine yq49 ?_; refine T.setT (d := 22) rfl (by omega) ?_; refine yq8 ?_; refine sp ?_; refine yq157 ?_; refine yq136 ?_
    exact T.retF (Lv.fin (RV.tmp2 rfl rfl rfl) (hend 1 (by omega) (countE_grp (by unfold grpErr; rw [if_pos (.inl h1)]) (by omega)) _))
  by_cases h4 : 4 < gs.length
  · refine zs3 ?_; (refine T.box Wanted.none rfl rfl zq15 ?_; intro b4); refine yq55 ?_; refine yq27 ?_; refine yq49 ?_; refine T.setF (d := 22) rfl (by omega) ?_; refine yq114 ?_; refine gv (PV.gtr rfl rfl) ?_; refine sF ?_; refine yq46 ?_; refine yq136 ?_
    exact T.retF (Lv.fin (RV.tmp2 rfl rfl rfl) (hend 1 (by omega) (countE_grp (by unfold grpErr; rw [if_pos (.inr h4)]) (by omega)) _))
  have h14 : ¬ (gs.length < 1 ∨ 4 < gs.length) := by omega
  refine zs3 ?_; (refine T.box Wanted.none rfl rfl zq15 ?_; intro b4); refine yq55 ?_; refine yq27 ?_; refine yq49 ?_; refine T.setF (d := 22) rfl (by omega) ?_; refine yq114 ?_; refine gv (PV.gtr rfl rfl) ?_; refine sF ?_; refine yq88 ?_; refine yq112 ?_; refine T.loopC [(28, Value.int IntKind.i64 (↑gs.length : Int)), (27, Value.slice ag gs.length cg), (4, Value.pointer (some { block := b4, off := 0 })), (1, Value.slice ab lb.length cb), (2, Value.slice am ms.length cm), (3, Value.slice ag gs.length cg)] zq8 29 gs.length (fun i => (gs.take i).any badG = false) rfl rfl ?_
  rintro i1 ⟨hp0, hp1⟩
  by_cases hp : i1 < gs.length
  · obtain ⟨b, off, g, rfl, hix, hsub⟩ := RowL.get encGp_len hg hp
    unfold encGp at hsub
    have hsh := shape_ref g H
    unfold gpV at hsh
    cases hq : shapeG g
    · have hb : gs.any badG = true := any_inG hix (by unfold badG; rw [hq]; rfl)
      rw [hq] at hsh
      refine yq110 ?_; refine sy fun b11 => ?_; refine yq10 ?_; refine sv (PV.loadAll rfl zq0 (by exact rfl)) ?_; refine T.callV Wanted.none rfl rfl (hsh) ?_; refine sv (PV.not rfl) ?_; refine yq36 ?_; refine yq136 ?_
      exact T.retF (Lv.fin (RV.tmp2 rfl rfl rfl) (hend 1 (by omega) (countE_grp (by unfold grpErr; rw [if_neg h14, if_pos hb]) (by omega)) _))
    · rw [hq] at hsh
      refine yq110 ?_; refine sy fun b11 => ?_; refine yq10 ?_; refine sv (PV.loadAll rfl zq0 (by exact rfl)) ?_; refine T.callV Wanted.none rfl rfl (hsh) ?_; refine sv (PV.not rfl) ?_; refine yq92 ?_; refine yq61 ?_
      exact T.nextC hp (ixI_drop hp1 hix (by unfold badG; rw [hq]; rfl)) rfl zq8 (by repeat (first | exact Sel.refl _ | exact Sel.nil | (refine Sel.cons zq1 ?_) | (refine Sel.app zq1 ?_) | exact Sel.one zq1))
  rw [List.take_of_length_le (by omega)] at hp1
  have hb1 : ¬ gs.any badG = true := by rw [hp1]; simp
  refine yq74 ?_; refine yq112 ?_; refine T.loopC [(38, Value.int IntKind.i64 (↑gs.length : Int)), (37, Value.slice ag gs.length cg), (4, Value.pointer (some { block := b4, off := 0 })), (1, Value.slice ab lb.length cb), (2, Value.slice am ms.length cm), (3, Value.slice ag gs.length cg)] zq8 39 gs.length (fun i => (gs.take i).any (nameG c) = false) rfl rfl ?_
  rintro i2 ⟨hj0, hj1⟩
  by_cases hj : i2 < gs.length
  · obtain ⟨b, off, g, rfl, hix, hsub⟩ := RowL.get encGp_len hg hj
    unfold encGp at hsub
    have hat := attribute_ref c.att c.va g.nm H hc.a hc.la
    have hatr := attI_range c.att g.nm
    by_cases k1 : g.k = 1
    · by_cases a1 : attI c.att g.nm = -1
      · have hb : gs.any (nameG c) = true := any_inG hix (by unfold nameG; rw [decide_eq_true k1, decide_eq_true (by omega)]; rfl)
        refine yq110 ?_; refine sy fun b13 => ?_; refine yq115 ?_; refine yq105 ?_; refine T.setT (d := 46) rfl (by omega) ?_; refine yq161 ?_; refine T.callV (Wanted.guard rfl rfl rfl) rfl rfl (hat) ?_; refine gv (PV.eql rfl rfl) ?_; refine sT ?_; refine yq46 ?_; refine yq136 ?_
        exact T.retF (Lv.fin (RV.tmp2 rfl rfl rfl) (hend 4 (by omega) (countE_grp (by unfold grpErr; rw [if_neg h14, if_neg hb1, if_pos hb]) (by omega)) _))
      · refine yq110 ?_; refine sy fun b13 => ?_; refine yq115 ?_; refine yq105 ?_; refine T.setT (d := 46) rfl (by omega) ?_; refine yq161 ?_; refine T.callV (Wanted.guard rfl rfl rfl) rfl rfl (hat) ?_; refine gv (PV.eql rfl rfl) ?_; refine sT ?_; refine yq88 ?_; refine yq61 ?_
        exact T.nextC hj (ixI_drop hj1 hix (by unfold nameG; rw [decide_eq_false (by omega : ¬ attI c.att g.nm < 0)]; simp)) rfl zq8 (by repeat (first | exact Sel.refl _ | exact Sel.nil | (refine Sel.cons zq1 ?_) | (refine Sel.app zq1 ?_) | exact Sel.one zq1))
    · refine yq110 ?_; refine sy fun b13 => ?_; refine yq115 ?_; refine yq105 ?_; refine T.setF (d := 46) rfl (by omega) ?_; refine yq149 ?_; refine sF ?_; refine yq92 ?_; refine yq61 ?_
      exact T.nextC hj (ixI_drop hj1 hix (by unfold nameG; rw [decide_eq_false k1]; rfl)) rfl zq8 (by repeat (first | exact Sel.refl _ | exact Sel.nil | (refine Sel.cons zq1 ?_) | (refine Sel.app zq1 ?_) | exact Sel.one zq1))
  rw [List.take_of_length_le (by omega)] at hj1
  have hb2 : ¬ gs.any (nameG c) = true := by rw [hj1]; simp
  refine yq74 ?_; refine yq112 ?_; refine T.loopC [(56, Value.int IntKind.i64 (↑gs.length : Int)), (55, Value.slice ag gs.length cg), (4, Value.pointer (some { block := b4, off := 0 })), (1, Value.slice ab lb.length cb), (2, Value.slice am ms.length cm), (3, Value.slice ag gs.length cg)] zq8 57 gs.length (fun i => (gs.take i).any (lostG lb) = false) rfl rfl ?_
  rintro i3 ⟨hm0, hm1⟩
  by_cases hm3 : i3 < gs.length
  · obtain ⟨b, off, g, rfl, hix, hsub⟩ := RowL.get encGp_len hg hm3
    unfold encGp at hsub
    have hco := knownG_fn lb g.lb (.slice ab lb.length cb) H hlb hll
    by_cases k1 : g.k = 1
    · by_cases a1 : g.at_ = 3
      · cases hq : lb.any fun x => decide (x = g.lb)
        · have hb : gs.any (lostG lb) = true := any_inG hix (by unfold lostG; rw [decide_eq_true k1, decide_eq_true a1, hq]; rfl)
          rw [hq] at hco
          refine yq110 ?_; refine sy fun b15 => ?_; refine yq115 ?_; refine yq105 ?_; refine T.setT (d := 64) rfl (by omega) ?_; refine yq29 ?_; refine yq192 ?_; refine T.setT (d := 69) rfl (by omega) ?_; refine yq191 ?_; refine T.callV (Wanted.guard rfl rfl rfl) rfl rfl (hco) ?_; refine gv (PV.not rfl) ?_; refine yq157 ?_; refine yq136 ?_
          exact T.retF (Lv.fin (RV.tmp2 rfl rfl rfl) (hend 16 (by omega) (countE_grp (by unfold grpErr; rw [if_neg h14, if_neg hb1, if_neg hb2, if_pos hb]) (by omega)) _))
        · have hb : lostG lb g = false := by unfold lostG; rw [hq]; simp
          rw [hq] at hco
          refine yq110 ?_; refine sy fun b15 => ?_; refine yq115 ?_; refine yq105 ?_; refine T.setT (d := 64) rfl (by omega) ?_; refine yq29 ?_; refine yq192 ?_; refine T.setT (d := 69) rfl (by omega) ?_; refine yq191 ?_; refine T.callV (Wanted.guard rfl rfl rfl) rfl rfl (hco) ?_; refine gv (PV.not rfl) ?_; refine sT ?_; refine yq92 ?_; refine yq61 ?_
          exact T.nextC hm3 (ixI_drop hm1 hix hb) rfl zq8 (by repeat (first | exact Sel.refl _ | exact Sel.nil | (refine Sel.cons zq1 ?_) | (refine Sel.app zq1 ?_) | exact Sel.one zq1))
      · have hb : lostG lb g = false := by unfold lostG; rw [decide_eq_false a1]; simp
        refine yq110 ?_; refine sy fun b15 => ?_; refine yq115 ?_; refine yq105 ?_; refine T.setT (d := 64) rfl (by omega) ?_; refine yq29 ?_; refine yq192 ?_; refine T.setF (d := 69) rfl (by omega) ?_; refine yq143 ?_; refine sF ?_; refine yq92 ?_; refine yq61 ?_
        exact T.nextC hm3 (ixI_drop hm1 hix hb) rfl zq8 (by repeat (first | exact Sel.refl _ | exact Sel.nil | (refine Sel.cons zq1 ?_) | (refine Sel.app zq1 ?_) | exact Sel.one zq1))
    · have hb : lostG lb g = false := by unfold lostG; rw [decide_eq_false k1]; rfl
      refine yq110 ?_; refine sy fun b15 => ?_; refine yq115 ?_; refine yq105 ?_; refine T.setF (d := 64) rfl (by omega) ?_; refine yq8 ?_; refine sp ?_; refine yq90 ?_; refine yq143 ?_; refine sF ?_; refine yq92 ?_; refine yq61 ?_
      exact T.nextC hm3 (ixI_drop hm1 hix hb) rfl zq8 (by repeat (first | exact Sel.refl _ | exact Sel.nil | (refine Sel.cons zq1 ?_) | (refine Sel.app zq1 ?_) | exact Sel.one zq1))
  rw [List.take_of_length_le (by omega)] at hm1
  have hb3 : ¬ gs.any (lostG lb) = true := by rw [hm1]; simp
  have he : grpErr c lb gs = 0 := by unfold grpErr; rw [if_neg h14, if_neg hb1, if_neg hb2, if_neg hb3]
  have hce : countE c lb ms gs = if ms.all (okM c lb) then 0 else 8 := by unfold countE; rw [if_neg (by omega)]
  refine yq195 ?_; refine yq112 ?_; refine T.loopK [(78, Value.int IntKind.i64 (↑ms.length : Int)), (77, Value.slice am ms.length cm), (4, Value.pointer (some { block := b4, off := 0 })), (1, Value.slice ab lb.length cb), (3, Value.slice ag gs.length cg)] zq8 (γ := CtG) (fun g => g.i ≤ ms.length ∧ H.le g.H ∧ RowV 52 encRw 2 g.v g.lv g.R ∧ (∀ r ∈ g.R, RwOk g.H r) ∧ g.R.map rwK = (ms.take g.i).map (rowK c lb gs) ∧ (ms.take g.i).all (okM c lb) = true) (fun g => [(79, .int .i64 (g.i : Int)), (16, g.v)]) (fun g => g.lv ++ [(b4, .cells #[c.va, c.vt, c.vx, c.vr, c.vn, c.vh, c.vs] 32 (0, 0))]) (fun g => g.H) (fun g => ms.length - g.i) ⟨0, H, .slice none 0 0, [], []⟩ ⟨by simp, Hp.le.refl _, Vec.nil _ _, by simp, by simp, by simp⟩ zq8 (by repeat (first | exact Sel.refl _ | exact Sel.nil | (refine Sel.cons zq1 ?_) | (refine Sel.app zq1 ?_) | exact Sel.one zq1)) rfl ?_
  rintro ⟨i, H2, v, lv, R⟩ ⟨g1, g2, g3, g4, g5, g6⟩
  dsimp only at g1 g2 g3 g4 g5 g6 ⊢
  obtain ⟨adv, capv, rfl⟩ := g3.val
  have hRl : R.length = i := by have := congrArg List.length g5; rw [List.length_map, List.length_map, List.length_take] at this; omega
  by_cases hi : i < ms.length
  · obtain ⟨bx, off, m, rfl, hix, hsub⟩ := RowL.get encM_len (hm.1.mono g2) hi
    have hmm := List.mem_of_getElem? hix
    have hmo := (hm.2 m hmm).mono g2
    have hmll := hml m hmm
    have hfi := fits_ref c m H2 (hc.mono g2) hmo hmll
    have hke := keys_ref c lb (.slice ab lb.length cb) m gs (.slice ag gs.length cg) H2 (hc.mono g2) hw (hlb.mono g2) hmo hmll (hg.mono g2) hgl
    obtain ⟨a1, c1, hmv⟩ := hmo.1.len
    unfold encM at hsub
    rw [hmv] at hsub
    unfold cpV mtV at hfi hke
    rw [hmv] at hfi hke
    cases hf : fitO c m with
    | none =>
      rw [hf] at hfi
      change Fn _ _ _ _ (fun u _ => u = .bool false) at hfi
      have hno := all_no hix (show okM c lb m = false by unfold okM; rw [hf]; rfl)
      rw [if_neg hno] at hce
      refine yq110 ?_; refine sy fun b18 => ?_; refine yq13 ?_; refine sq ?_; refine zs3 ?_; refine yq20 ?_; refine T.callV Wanted.none rfl rfl (hfi) ?_; refine yq107 ?_; refine yq149 ?_; refine yq157 ?_; refine yq136 ?_
      exact T.retF (Lv.fin (RV.tmp2 rfl rfl rfl) (hend 8 (by omega) hce _))
    | some t =>
      rw [hf] at hfi
      change Fn _ _ _ _ (fun u _ => u = .bool true) at hfi
      by_cases hq : m.ls.length = lb.length
      · have hok : okM c lb m = true := by unfold okM; rw [hf, decide_eq_true hq]; rfl
        have hqd : decide ((m.ls.length : Int) ≠ (lb.length : Int)) = false := decide_eq_false (by omega)
        refine yq110 ?_; refine sy fun b18 => ?_; refine yq13 ?_; refine sq ?_; refine zs3 ?_; refine yq20 ?_; refine T.callV Wanted.none rfl rfl (hfi) ?_; refine yq107 ?_; refine yq96 ?_; refine yq114 ?_; refine yq160 ?_; refine so ?_; refine yq108 ?_; refine yq81 ?_; refine sv (PV.loadAll rfl zq0 (by exact rfl)) ?_; refine yq138 ?_; refine sm ?_; (refine T.call Wanted.none rfl rfl hke ?_; intro vk H3 h3 hvk; obtain ⟨ak, ck, rfl⟩ := hvk.len); refine sv (PV.build rfl zq12) ?_; (refine T.buildSlice Wanted.none rfl rfl zq11 (by exact rfl) (by exact rfl) ?_; intro b102)
        (refine T.appendP (lv := lv) Wanted.none rfl rfl rfl g3 (Src.cells (m := 1) (ys := [.slice ak (keysO c lb m gs).length ck, .int .i64 1]) (.own zq2) rfl rfl) (by intro v hv; simp only [List.mem_cons, List.not_mem_nil, or_false] at hv; rcases hv with rfl | rfl <;> rfl) (by omega) zq1 ?_; intro v103 lv103 hv103 _; obtain ⟨ad103, cap103, rfl⟩ := hv103.val); refine yq0 ?_; refine yq61 ?_
        have hkl := keysO_len (c := c) (lb := lb) (m := m) (gs := gs)
        have hks := keysO_size (lb := lb) (m := m) (gs := gs) hc hw
        have hnew : RwOk H3 ⟨.slice ak (keysO c lb m gs).length ck, keysO c lb m gs, 1⟩ := ⟨hvk, by show (keysO c lb m gs).length ≤ 1000; omega, by have := joinL_bound _ hks; show (joinL (keysO c lb m gs)).length ≤ _; have h9 : (keysO c lb m gs).length * 1000100 ≤ 4 * 1000100 := Nat.mul_le_mul_right _ (by omega); omega⟩
        refine T.nextP ⟨i + 1, H3, _, lv103, R ++ [⟨.slice ak (keysO c lb m gs).length ck, keysO c lb m gs, 1⟩]⟩ ⟨by dsimp only; omega, g2.trans h3, RowV.snoc hv103, fun x hx => ?_, by dsimp only; rw [map_snoc hix, List.map_append, g5]; rfl, all_drop g6 hix hok⟩ (by dsimp only; omega) zq8 (by repeat (first | exact Sel.refl _ | exact Sel.nil | (refine Sel.cons zq1 ?_) | (refine Sel.app zq1 ?_) | exact Sel.one zq1)) rfl
        rcases List.mem_append.1 hx with hx | hx
        · exact (g4 x hx).mono h3
        · rw [List.mem_singleton] at hx; subst hx; exact hnew
      · have hno := all_no hix (show okM c lb m = false by unfold okM; rw [hf, decide_eq_false hq]; rfl)
        have hqd : decide ((m.ls.length : Int) ≠ (lb.length : Int)) = true := decide_eq_true (by omega)
        rw [if_neg hno] at hce
        refine yq110 ?_; refine sy fun b18 => ?_; refine yq13 ?_; refine sq ?_; refine zs3 ?_; refine yq20 ?_; refine T.callV Wanted.none rfl rfl (hfi) ?_; refine yq107 ?_; refine yq96 ?_; refine yq114 ?_; refine yq160 ?_; refine so ?_; refine T.condT rfl (by assumption) ?_; refine yq136 ?_
        exact T.retF (Lv.fin (RV.tmp2 rfl rfl rfl) (hend 8 (by omega) hce _))
  · rw [List.take_of_length_le (by omega)] at g5 g6
    rw [if_pos g6] at hce
    have hR0 : ∀ r ∈ R, r.n = 1 := fun r hr => by
      have h1 : rwK r ∈ R.map rwK := List.mem_map_of_mem hr
      rw [g5] at h1
      obtain ⟨m, _, h2⟩ := List.mem_map.1 h1
      have := congrArg Prod.snd h2
      exact this.symm
    refine yq74 ?_; refine T.freezeP (lv := lv) g3 zq1 ?_
    intro H3 h3 hs3
    have hRL : RwL H3 (.slice adv R.length capv) R := ⟨hs3, fun r hr => (g4 r hr).mono h3⟩
    refine yq2 ?_; (refine T.call Wanted.none rfl rfl (sum_ref R _ H3 hRL (by omega) (fun r hr => by rw [hR0 r hr]; omega)) ?_; rintro vs H4 h4 ⟨A, hA, hAs⟩; obtain ⟨az, cz, rfl⟩ := hA.1.len); refine yq55 ?_
    exact T.retF (Lv.fin (RV.tmp2 rfl rfl rfl) ⟨_, A, by rw [hce], hA, fun _ => by rw [hAs, g5]; rfl, fun h => absurd hce h⟩)
end Go.Proofs.YthacphfjchpoaaaGreatDoor
