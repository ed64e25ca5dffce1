/- match: comparing matches; sorting the matches of one begin.
   match: the matches with a begin.
   match: all matches of the pattern. -/
import Derived.Test.YtbcadnjfegiakaaGreatDoorGV
namespace Go.Proofs.YtbcadnjfegiakaaGreatDoor
open Go.RowKit


set_option maxHeartbeats 2000000 in
theorem cmpInts_fn (a b : List Int) (va vb : Value) (H : Hp) (ha : InL H va a) (hb : InL H vb b) (hla : a.length ≤ 9223372036854775807) (hlb : b.length ≤ 9223372036854775807) : Fn Tryz.prog 157 #[va, vb] H (fun u _ => u = .int .i64 (cmpL a b)) := by
  obtain ⟨ada, capa, rfl⟩ := ha.len
  obtain ⟨adb, capb, rfl⟩ := hb.len
  refine Fn.of_T (vs := [.slice ada a.length capa, .slice adb b.length capb]) Tryz.func157 rfl rfl fun w => ?_; refine zs3 ?_; refine yq11 ?_; refine yq30 ?_; refine yq35 ?_
  refine T.loop (γ := Nat) (fun i => i ≤ a.length ∧ i ≤ b.length ∧ cmpL (a.drop i) (b.drop i) = cmpL a b)
    (fun i => [(11, .int .i64 (i : Int)), (10, .int .i64 (a.length : Int)), (9, .slice ada a.length capa), (0, .slice ada a.length capa), (1, .slice adb b.length capb)])
    (fun _ => []) (fun _ => H) (fun i => a.length - i) 0 ⟨by simp, by simp, rfl⟩ zq8 zq4 rfl ?_
  rintro i ⟨i1, i2, i3⟩
  by_cases hi : i < a.length
  · obtain ⟨x, hx⟩ : ∃ x, a[i]? = some x := ⟨_, List.getElem?_eq_getElem hi⟩
    obtain ⟨b1, off1, rfl, hsub⟩ := ha.intAt hx
    by_cases hj : i < b.length
    · obtain ⟨y, hy⟩ : ∃ x, b[i]? = some x := ⟨_, List.getElem?_eq_getElem hj⟩
      obtain ⟨b2, off2, rfl, hsub2⟩ := hb.intAt hy
      rw [cmpL_drop hx hy] at i3
      have hc := cmpCompare_fn x y H
      unfold cmpI at hc
      by_cases h1 : x < y
      · rw [if_pos h1] at i3 hc
        refine yq16 ?_; refine sC rfl (by omega) ?_; refine yq25 ?_; refine yq4 ?_; refine yq27 ?_; refine sa ?_; refine yq11 ?_; refine yq4 ?_; refine sm ?_; refine sv (PV.lenSl rfl) ?_; refine sv (PV.geq rfl rfl) ?_; refine so ?_; refine sd rfl (by omega) ?_; refine T.skip ?_; refine yq4 ?_; refine sm ?_; refine yq27 ?_; refine yq28 ?_; refine sm ?_; refine T.callV Wanted.none rfl rfl (hc) ?_; refine yq28 ?_; refine yq29 ?_; refine T.condT rfl rfl ?_
        refine yq4 ?_; refine yq0 ?_
        exact T.retF (Lv.fin (RV.tmp rfl rfl) (by rw [← i3]))
      · rw [if_neg h1] at i3 hc
        by_cases h2 : y < x
        · rw [if_pos h2] at i3 hc
          refine yq16 ?_; refine sC rfl (by omega) ?_; refine yq25 ?_; refine yq4 ?_; refine yq27 ?_; refine sa ?_; refine yq11 ?_; refine yq4 ?_; refine sm ?_; refine sv (PV.lenSl rfl) ?_; refine sv (PV.geq rfl rfl) ?_; refine so ?_; refine sd rfl (by omega) ?_; refine T.skip ?_; refine yq4 ?_; refine sm ?_; refine yq27 ?_; refine yq28 ?_; refine sm ?_; refine T.callV Wanted.none rfl rfl (hc) ?_; refine yq28 ?_; refine yq29 ?_; refine T.condT rfl rfl ?_
          refine yq4 ?_; refine yq0 ?_
          exact T.retF (Lv.fin (RV.tmp rfl rfl) (by rw [← i3]))
        · rw [if_neg h2] at i3 hc
          refine yq16 ?_; refine sC rfl (by omega) ?_; refine yq25 ?_; refine yq4 ?_; refine yq27 ?_; refine sa ?_; refine yq11 ?_; refine yq4 ?_; refine sm ?_; refine sv (PV.lenSl rfl) ?_; refine sv (PV.geq rfl rfl) ?_; refine so ?_; refine sd rfl (by omega) ?_; refine T.skip ?_; refine yq4 ?_; refine sm ?_; refine yq27 ?_; refine yq28 ?_; refine sm ?_; refine T.callV Wanted.none rfl rfl (hc) ?_; refine yq28 ?_; refine yq29 ?_; refine T.condF rfl rfl ?_
          refine T.skip ?_; refine yq33 ?_; refine yq23 ?_
          exact T.next (i + 1) ⟨by omega, by omega, i3⟩ (by omega) zq8 zq4 rfl
    · rw [List.drop_of_length_le (by omega : b.length ≤ i), cmpL_nil2 (by rw [List.length_drop]; omega)] at i3
      refine yq16 ?_; refine sC rfl (by omega) ?_; refine yq25 ?_; refine yq4 ?_; refine yq27 ?_; refine sa ?_; refine yq11 ?_; refine yq4 ?_; refine sm ?_; refine sv (PV.lenSl rfl) ?_; refine sv (PV.geq rfl rfl) ?_; refine so ?_; refine sC rfl (by omega) ?_; refine zs3 ?_; refine yq0 ?_
      exact T.retF (Lv.fin (RV.tmp rfl rfl) (by rw [← i3]))
  · rw [List.drop_of_length_le (by omega : a.length ≤ i), cmpL_nil, List.length_drop] at i3
    by_cases hj : a.length < b.length
    · rw [if_pos (by omega)] at i3
      refine yq16 ?_; refine yq21 ?_; refine sq ?_; refine yq30 ?_; refine sm ?_; refine sv (PV.lenSl rfl) ?_; refine yq2 ?_; refine sC rfl (by omega) ?_; refine zs3 ?_; refine yq0 ?_
      exact T.retF (Lv.fin (RV.tmp rfl rfl) (by rw [← i3]))
    · rw [if_neg (by omega)] at i3
      refine yq16 ?_; refine yq21 ?_; refine sq ?_; refine yq30 ?_; refine sm ?_; refine sv (PV.lenSl rfl) ?_; refine yq2 ?_; refine sd rfl (by omega) ?_; refine T.skip ?_; refine zs3 ?_; refine yq0 ?_
      exact T.retF (Lv.fin (RV.tmp rfl rfl) (by rw [← i3]))
theorem or_key (a b : Mt) : orI [cmpI a.b b.b, cmpI a.e b.e, cmpL a.ls b.ls] = cmpL (keyM a) (keyM b) := by
  unfold keyM
  rw [cmpL, cmpL]
  unfold orI orI orI orI cmpI
  by_cases h1 : a.b < b.b
  · rw [if_pos h1, if_pos h1]; simp
  · rw [if_neg h1, if_neg h1]
    by_cases h2 : b.b < a.b
    · rw [if_pos h2, if_pos h2]; simp
    · rw [if_neg h2, if_neg h2]
      by_cases h3 : a.e < b.e
      · rw [if_pos h3, if_pos h3]; simp
      · rw [if_neg h3, if_neg h3]
        by_cases h4 : b.e < a.e
        · rw [if_pos h4, if_pos h4]; simp
        · rw [if_neg h4, if_neg h4]; simp only [ne_eq, not_true_eq_false, if_false]; split <;> simp_all
set_option maxHeartbeats 2000000 in
theorem matchCompare_fn (a b : Mt) (H : Hp) (ha : LabOk H a) (hb : LabOk H b) : Fn Tryz.prog 79 #[mtV a, mtV b] H (fun u _ => u = .int .i64 (cmpL (keyM a) (keyM b))) := by
  refine Fn.of_T (vs := [mtV a, mtV b]) Tryz.func79 rfl rfl fun w => ?_
  unfold mtV
  have hcl := cmpInts_fn a.ls b.ls a.v b.v H ha.1 hb.1 (by have := ha.2; omega) (by have := hb.2; omega)
  refine zs3 ?_; (refine T.box Wanted.none rfl rfl zq15 ?_; intro b2); (refine T.box Wanted.none rfl rfl zq15 ?_; intro b3); refine yq11 ?_; refine T.regionT 15 (by kernel_rfl) ?_; refine yq1 ?_; refine yq1 ?_; refine TQ.callV Wanted.none rfl rfl (cmpCompare_fn _ _ H) ?_; refine yq1 ?_; refine yq1 ?_; refine TQ.callV Wanted.none rfl rfl (cmpCompare_fn _ _ H) ?_; refine yq1 ?_; refine yq1 ?_; refine TQ.callV Wanted.none rfl rfl (hcl) ?_; refine TQ.nil ?_; (refine T.buildSlice Wanted.none rfl rfl zq11 (by exact rfl) (by exact rfl) ?_; intro b20); refine T.freezeLit ?_
  intro H1 hle1 hH1
  have hsl : SlR H1 1 _ _ (intsV [cmpI a.b b.b, cmpI a.e b.e, cmpL a.ls b.ls]) := SlR.lit (n := 3) hH1 rfl
  refine T.callV Wanted.none rfl rfl (cmpOr_fn [cmpI a.b b.b, cmpI a.e b.e, cmpL a.ls b.ls] _ H1 hsl (Nat.le_of_ble_eq_true rfl)) ?_; refine yq0 ?_
  exact T.retF (Lv.fin (RV.tmp rfl rfl) (by rw [or_key]))
/-! ### sorting the matches of one begin: ends apart, no labels -/
def encE (a : Int) (lab : Int → Value) (e : Int) : List Value := [.int .i64 a, .int .i64 e, lab e]
theorem encE_len (a : Int) (lab : Int → Value) (e : Int) : (encE a lab e).length = 3 := rfl
theorem cmpI_lt (a b : Int) : Go.Proofs.ltOf cmpI a b = decide (a < b) := by
  unfold Go.Proofs.ltOf cmpI
  rw [decide_eq_decide]
  repeat' split
  all_goals omega
theorem cmpI_swo : Go.Sort.SWO (Go.Proofs.ltOf cmpI) where
  irrefl x := by rw [cmpI_lt]; simp
  trans x y z h1 h2 := by
    rw [cmpI_lt, decide_eq_true_eq] at *
    omega
  ntrans x y z h1 h2 := by
    rw [cmpI_lt, decide_eq_false_iff_not] at *
    omega
theorem cmpI_tot (x y : Int) (h1 : Go.Proofs.ltOf cmpI x y = false) (h2 : Go.Proofs.ltOf cmpI y x = false) : x = y := by
  rw [cmpI_lt, decide_eq_false_iff_not] at *
  omega
def sortI (l : List Int) : List Int := l.mergeSort fun x y => !(Go.Proofs.ltOf cmpI) y x
theorem sortI_len (l : List Int) : (sortI l).length = l.length := by unfold sortI; exact List.length_mergeSort _
theorem sortI_mem (l : List Int) (x : Int) : x ∈ sortI l ↔ x ∈ l := (List.mergeSort_perm l _).mem_iff
theorem sortI_pw {l : List Int} (hn : l.Nodup) : (sortI l).Pairwise (· < ·) := by
  have h := List.pairwise_mergeSort (le := fun x y => !(Go.Proofs.ltOf cmpI) y x) (fun a b c h1 h2 => by
    simp only [cmpI_lt, Bool.not_eq_true', decide_eq_false_iff_not] at *
    omega) (fun a b => by
    simp only [cmpI_lt, Bool.or_eq_true, Bool.not_eq_true', decide_eq_false_iff_not]
    omega) l
  have hd : (sortI l).Nodup := (List.mergeSort_perm l _).nodup_iff.2 hn
  refine (h.and hd).imp ?_
  rintro a b ⟨h1, h2⟩
  simp only [cmpI_lt, Bool.not_eq_true', decide_eq_false_iff_not] at h1
  omega
theorem cmpE_fn (a : Int) (lab : Int → Value) (hl : ∀ e, ∃ ad cap, lab e = .slice ad 0 cap) (x y : Int) (H : Hp) : Fn Tryz.prog 79 #[.agg (encE a lab x).toArray, .agg (encE a lab y).toArray] H (fun u _ => u = .int .i64 (cmpI x y)) := by
  obtain ⟨ax, cx, hx⟩ := hl x
  obtain ⟨ay, cy, hy⟩ := hl y
  have h := matchCompare_fn ⟨a, x, lab x, []⟩ ⟨a, y, lab y, []⟩ H ⟨by rw [hx]; exact SlR.empty, by simp⟩ ⟨by rw [hy]; exact SlR.empty, by simp⟩
  refine h.mono fun u _ hu => hu.trans ?_
  congr 1
  unfold keyM
  dsimp only
  rw [cmpL, if_neg (by omega), if_neg (by omega), cmpL]
  unfold cmpI cmpL
  rfl
theorem sortE_fn (a : Int) (lab : Int → Value) (hlb : ∀ e, ∃ ad cap, lab e = .slice ad 0 cap) (l : List Int) (v : Value) (lv : List (Nat × Obj)) (H : Hp) (hv : Vec 71 3 v lv l.length (l.flatMap (encE a lab))) (hl : l.length ≤ 1000000) :
    FnW Tryz.prog 78 #[v, .func (.func 79) #[] #[]] H lv (fun u H' l' => u = .tuple #[] ∧ H' = H ∧ Vec 71 3 v l' l.length ((sortI l).flatMap (encE a lab))) := by
  have hsl := sortI_len l
  have hfl : ∀ m : List Int, (m.flatMap (encE a lab)).length = m.length * 3 := fun m => flat_len (encE_len a lab) m
  have h1 : ∀ e, ∀ u ∈ encE a lab e, u.oneCell' = true := fun e u hu => by
    obtain ⟨ad, cap, he⟩ := hlb e
    simp only [encE, List.mem_cons, List.not_mem_nil, or_false] at hu
    rcases hu with rfl | rfl | rfl
    · rfl
    · rfl
    · rw [he]; rfl
  rcases hv.2 with ⟨⟨ad, rfl⟩, rfl, h0⟩ | ⟨b, cap, cs, rfl, rfl, h3, h2, h4, h5⟩
  · have hl0 : l = [] := List.eq_nil_of_length_eq_zero h0
    subst hl0
    refine FnW.mk fun w hw => callsIn_wide.2 ((Go.Proofs.AnyF.slices_SortFunc_none (ρ := Tryz.sortMtL_ren) { Tryz.sortMtL with } ad 0 (.func (.func 79) #[] #[]) w).mono ?_)
    rintro e w' ⟨rfl, rfl⟩
    have h00 : sortI [] = [] := List.eq_nil_of_length_eq_zero hsl
    exact ⟨_, H, [], rfl, hw, rfl, rfl, by rw [h00]; exact Vec.empty _ _ _⟩
  · obtain ⟨tl, rfl⟩ : ∃ tl, cs = l.flatMap (encE a lab) ++ tl := ⟨cs.drop (l.length * 3), by rw [← h5, List.take_append_drop]⟩
    have hcmp : ∀ x y : Int, Fn Tryz.prog 79 ([Value.agg (encE a lab x).toArray, .agg (encE a lab y).toArray] ++ []).toArray H (fun v _ => v = .int .i64 (cmpI x y)) := fun x y => cmpE_fn a lab hlb x y H
    refine (sort_FnW (ρ := Tryz.sortMtL_ren) Tryz.sortMtL (enc := encE a lab) (k := 3) (by intro w; exact Tryz.isAgg71 w) (by intro w; exact Tryz.sizeOf71 w) (encE_len a lab) h1 cmpI cmpI_swo cmpI_tot 79 [] l tl hcmp (by omega)).mono ?_
    rintro v H' l' ⟨rfl, rfl, rfl⟩
    refine ⟨rfl, rfl, by rw [hfl, hsl], .inr ⟨b, cap, (sortI l).flatMap (encE a lab) ++ tl, rfl, rfl, h3, h2, ?_, ?_⟩⟩
    · rw [← h4, List.length_append, List.length_append, hfl, hfl, hsl]
    · rw [← hsl, ← hfl, List.take_left]

end Go.Proofs.YtbcadnjfegiakaaGreatDoor
namespace Go.Proofs.YtbcadnjfegiakaaGreatDoor
open Go.RowKit


theorem T.noneMap {P : Program} {X : Cx} {e : Env} {l : List (Nat × Obj)} {H : Hp} {D : List Deferred} {k : List It} {all : Array Oper} {rest : List Oper} {ty : TypeId} {pos : String} {after : Array Edge} {gd : Option (Nat × Bool)} {t : TypeId} {d : Nat} (hw : Wanted e all ⟨some d, .makeMap t none, ty, pos, after, gd⟩) (hN : Nat.blt d X.N = true)
    (h : ∀ b, T P X ((d, .map (some b)) :: e) ((b, .map #[] 0) :: l) H D (.ops all rest :: k)) :
    T P X e l H D (.ops all (⟨some d, .makeMap t none, ty, pos, after, gd⟩ :: rest) :: k) := T.mkMap hw hN h
theorem textAtP_fn (c : Cp) (p : Int) (H : Hp) (hc : CpA H c) : Fn Tryz.prog 7 #[cpV c, .int .i64 p] H (fun u _ => u = .int .i64 (ixI (inT p) c.tx)) := by
  obtain ⟨aa, ca, at1, ct, ax, cx, ar, cr, an, cn, ah, ch, as1, cs, hcv, ha, ht, hx, hr, hn, hh, hs⟩ := hc.open; rw [hcv]; have hla := hc.la; have hlt := hc.lt; have hlx := hc.lx; have hlr := hc.lr; have hln := hc.ln; have hlh := hc.lh; have hls := hc.ls
  refine Fn.of_T (vs := [.agg #[.slice aa c.att.length ca, .slice at1 c.tk.length ct, .slice ax c.tx.length cx, .slice ar c.rg.length cr, .slice an c.nd.length cn, .slice ah c.hd.length ch, .slice as1 c.rl.length cs], .int .i64 p]) Tryz.func7 rfl rfl fun w => ?_; refine zs3 ?_; (refine T.box Wanted.none rfl rfl zq15 ?_; intro b2); refine yq11 ?_; refine zs3 ?_; refine yq12 ?_; refine yq35 ?_; refine T.loopC [(9, Value.int IntKind.i64 (↑c.tx.length : Int)), (8, Value.slice ax c.tx.length cx), (1, Value.int IntKind.i64 p)] zq8 10 c.tx.length (fun i => (c.tx.take i).any (inT p) = false) rfl rfl ?_
  rintro i ⟨hi0, hi1⟩
  by_cases hi : i < c.tx.length
  · obtain ⟨bx, off, x, rfl, hix, hsub⟩ := RowL.get encRg_len hx.1 hi
    unfold encRg at hsub
    obtain ⟨am, cm, hmv⟩ := (hx.2 x (List.mem_of_getElem? hix)).1.len
    rw [hmv] at hsub
    by_cases h1 : x.b ≤ p
    · by_cases h2 : p < x.e
      · have ht : inT p x = true := by unfold inT; rw [decide_eq_true h1, decide_eq_true h2]; rfl
        refine yq16 ?_; refine sC rfl (by omega) ?_; refine yq25 ?_; refine yq4 ?_; refine yq5 ?_; refine sy fun b6 => ?_; refine sa ?_; refine yq13 ?_; refine yq6 ?_; refine sm ?_; refine sv (PV.leq rfl rfl) ?_; refine sm ?_; refine T.setT (d := 19) rfl (by omega) ?_; refine gm ?_; refine yq26 ?_; refine gv (PV.lss rfl rfl) ?_; refine sT ?_; refine so ?_; refine sC rfl (by omega) ?_; refine yq4 ?_; refine yq0 ?_
        refine T.retF (Lv.fin (RV.tmp rfl rfl) ?_)
        rw [ixI_hit hi1 hix ht]
      · have ht : inT p x = false := by unfold inT; rw [decide_eq_false h2]; simp
        refine yq16 ?_; refine sC rfl (by omega) ?_; refine yq25 ?_; refine yq4 ?_; refine yq5 ?_; refine sy fun b6 => ?_; refine sa ?_; refine yq13 ?_; refine yq6 ?_; refine sm ?_; refine sv (PV.leq rfl rfl) ?_; refine sm ?_; refine T.setT (d := 19) rfl (by omega) ?_; refine gm ?_; refine yq26 ?_; refine gv (PV.lss rfl rfl) ?_; refine sT ?_; refine so ?_; refine sd rfl (by omega) ?_; refine T.skip ?_; refine yq33 ?_; refine yq23 ?_
        exact T.nextC hi (ixI_drop hi1 hix ht) rfl zq8 (by repeat (first | exact Sel.refl _ | exact Sel.nil | (refine Sel.cons zq1 ?_) | (refine Sel.app zq1 ?_) | exact Sel.one zq1))
    · have ht : inT p x = false := by unfold inT; rw [decide_eq_false h1]; simp
      refine yq16 ?_; refine sC rfl (by omega) ?_; refine yq25 ?_; refine yq4 ?_; refine yq5 ?_; refine sy fun b6 => ?_; refine sa ?_; refine yq13 ?_; refine yq6 ?_; refine sm ?_; refine sv (PV.leq rfl rfl) ?_; refine sm ?_; refine T.setF (d := 19) rfl (by omega) ?_; refine yq17 ?_; refine yq17 ?_; refine sF ?_; refine so ?_; refine yq7 ?_; refine yq33 ?_; refine yq23 ?_
      exact T.nextC hi (ixI_drop hi1 hix ht) rfl zq8 (by repeat (first | exact Sel.refl _ | exact Sel.nil | (refine Sel.cons zq1 ?_) | (refine Sel.app zq1 ?_) | exact Sel.one zq1))
  · rw [List.take_of_length_le (by omega)] at hi1
    refine yq16 ?_; refine yq21 ?_; refine zs3 ?_; refine yq0 ?_
    refine T.retF (Lv.fin (RV.tmp rfl rfl) ?_)
    rw [ixI_miss hi1]
theorem nodup_bound : ∀ (n : Nat) (l : List Int), l.Nodup → (∀ x ∈ l, 0 ≤ x ∧ x < (n : Int)) → l.length ≤ n
  | 0, l, _, h => by
    have : l = [] := List.eq_nil_iff_forall_not_mem.2 fun x hx => by have := h x hx; omega
    subst this; exact Nat.le_refl 0
  | n + 1, l, hn, h => by
    by_cases hm : (n : Int) ∈ l
    · have h1 := nodup_bound n (l.erase (n : Int)) (hn.erase _) fun x hx => by
        have h2 := h x (List.mem_of_mem_erase hx)
        have h3 : x ≠ (n : Int) := (hn.mem_erase_iff.1 hx).1
        omega
      rw [List.length_erase_of_mem hm] at h1
      omega
    · have := nodup_bound n l hn fun x hx => by
        have h2 := h x hx
        have h3 : x ≠ (n : Int) := fun e => hm (e ▸ hx)
        omega
      omega
/-- the labels of the match with an end -/
def labF (L : List Mt) (x : Int) : Value := ((L.find? fun m => decide (m.e = x)).map (·.v)).getD (.slice none 0 0)
theorem labF_empty (L : List Mt) (h : ∀ m ∈ L, ∃ ad cap, m.v = .slice ad 0 cap) (x : Int) : ∃ ad cap, labF L x = .slice ad 0 cap := by
  unfold labF
  cases hf : L.find? fun m => decide (m.e = x) with
  | none => exact ⟨none, 0, rfl⟩
  | some m => exact h m (List.mem_of_find?_eq_some hf)
theorem labF_at {L : List Mt} (hn : (L.map (·.e)).Nodup) {m : Mt} (hm : m ∈ L) : labF L m.e = m.v := by
  unfold labF
  cases hf : L.find? fun n => decide (n.e = m.e) with
  | none => exact absurd (List.find?_eq_none.1 hf m hm) (by simp)
  | some n =>
    have h1 : n.e = m.e := by simpa using List.find?_some hf
    have h2 := List.mem_of_find?_eq_some hf
    obtain ⟨i, hi⟩ := List.getElem?_of_mem hm
    obtain ⟨j, hj⟩ := List.getElem?_of_mem h2
    have e1 : (L.map (·.e))[i]? = some m.e := by simp [hi]
    have e2 : (L.map (·.e))[j]? = some m.e := by simp [hj, h1]
    have hil := (List.getElem?_eq_some_iff.1 e1).1
    obtain rfl := (List.getElem?_inj hil hn).1 (e1.trans e2.symm)
    rw [hi] at hj
    obtain rfl := Option.some.inj hj
    rfl
theorem ends_enc (a : Int) (L : List Mt) (hn : (L.map (·.e)).Nodup) (hb : ∀ m ∈ L, m.b = a) : L.flatMap encM = (L.map (·.e)).flatMap (encE a (labF L)) := by
  rw [List.flatMap_map]
  have : ∀ l : List Mt, (∀ m ∈ l, m ∈ L) → l.flatMap encM = l.flatMap fun m => encE a (labF L) m.e := by
    intro l
    induction l with
    | nil => intro _; rfl
    | cons m l ih =>
      intro h
      rw [List.flatMap_cons, List.flatMap_cons, ih fun x hx => h x (List.mem_cons_of_mem _ hx)]
      congr 1
      have hm := h m List.mem_cons_self
      unfold encM encE
      rw [labF_at hn hm, hb m hm]
  exact this L fun _ h => h
theorem runL_sorted (c : Cp) (kind : ByteArray) (t : Rg) (b : Nat) : (runL c kind t b).Pairwise ltC := by
  unfold runL
  split
  · exact rowW_sorted _ _ _
  · exact List.Pairwise.nil
theorem runL_mem {c : Cp} {kind : ByteArray} {t : Rg} {b : Nat} {s : Sp} : s ∈ runL c kind t b ↔ anB c.rg kind t.b t.e b = true ∧ ∃ e : Nat, b < e ∧ e ≤ t.e.toNat ∧ anE c.rg kind t.b t.e e = true ∧ s = ((b : Int), (e : Int)) := by
  unfold runL
  split
  · rename_i h
    rw [rowW_mem]
    exact ⟨fun h2 => ⟨h, h2⟩, fun h2 => h2.2⟩
  · rename_i h
    constructor
    · intro h2; cases h2
    · intro h2; exact absurd h2.1 h
/-- a round over the states behind the pattern -/
structure FrG where
  seen : Array Nat
  left : Kvs Int
  v : Value
  lv : List (Nat × Obj)
  L : List Mt
set_option maxHeartbeats 8000000 in
theorem from_fn (c : Cp) (kind : ByteArray) (bs bt : Nat) (fa : Option Addr) (fn fc : Nat) (a : Nat) (H : Hp) (hc : CpA H c) (hg : cpGood c) (hp : PtR H kind bs bt) (hn : validName kind = true) (hlt : c.tk.length ≤ 1000) (ha : a < c.tk.length) {i : Nat} {t : Rg} (hi : c.tx[i]? = some t) (h1 : t.b ≤ a) (h2 : (a : Int) < t.e) :
    Fn Tryz.prog 35 #[cpV c, quV bs fa fn fc, .int .i64 (a : Int)] H (fun u H' => ∃ L, MtL H' u L ∧ L.map mk3 = (runL c kind t a).map fun s => (s.1, s.2, [])) := by
  have hct := chain_le c.tx 0 _ hg.x
  have htt := hct.2 t (List.mem_of_getElem? hi)
  have hix : ixI (inT (a : Int)) c.tx = (i : Int) := (same_text hg.x hi h1 h2 (e := a + 1) (by omega) (by omega)).1
  have hta := textAtP_fn c a H hc
  rw [hix] at hta
  have hlb := qLabels_fn kind bs bt H hp hn
  obtain ⟨at1, ct, hvt⟩ := hc.t.len
  obtain ⟨ax, cx, hvx⟩ := hc.x.1.len
  have hx := hc.x
  rw [hvx] at hx
  obtain ⟨bx, offx, x, rfl, hix2, hsubx⟩ := RowL.get encRg_len hx.1 (i := i) (List.getElem?_eq_some_iff.1 hi).1
  rw [hi] at hix2
  obtain rfl := Option.some.inj hix2
  obtain ⟨am, cm, hmv⟩ := (hx.2 t (List.mem_of_getElem? hi)).1.len
  unfold encRg at hsubx
  rw [hmv] at hsubx
  have hil := (List.getElem?_eq_some_iff.1 hi).1
  have hlx := hc.lx
  have hmin : min t.e (c.tk.length : Int) = t.e := by omega
  unfold cpV at hta ⊢
  rw [hvt, hvx] at hta ⊢
  unfold quV quC encPn pS
  unfold pnV pS at hlb
  dsimp only [List.cons_append, List.nil_append] at *
  refine Fn.of_T (vs := [_, _, .int .i64 (a : Int)]) Tryz.func35 rfl rfl fun w => ?_; refine zs3 ?_; (refine T.box Wanted.none rfl rfl zq15 ?_; intro b3); (refine T.box Wanted.none rfl rfl zq15 ?_; intro b4); refine yq14 ?_; refine sv (PV.loadAll rfl zq0 (by exact rfl)) ?_; refine sm ?_; refine T.callV Wanted.none rfl rfl (hta) ?_; refine yq11 ?_; refine yq4 ?_; refine yq2 ?_; refine yq7 ?_; refine zs3 ?_; refine yq6 ?_; refine sm ?_; refine yq5 ?_; refine sy fun b8 => ?_; refine yq9 ?_
  (repeat refine sq ?_)
  refine T.cutK [(4, Value.pointer (some { block := b4, off := 0 })), (2, Value.int IntKind.i64 (↑a : Int))] (γ := Nat × Nat) (fun _ => True) (fun g => [(9, .pointer (some ⟨g.1, 0, none⟩))]) (fun g => [(g.1, .cells #[c.va, .slice at1 c.tk.length ct, .slice (some ⟨bx, offx, none⟩) c.tx.length cx, c.vr, c.vn, c.vh, c.vs, .slice none 0 0, .int .i64 t.b, .int .i64 (min t.e (c.tk.length : Int)), .map (some g.2)] 139 (0, 0)), (g.2, .map #[] 0), (b4, .cells #[.int .i64 4, .int .i64 0, .string ⟨#[]⟩, .string ⟨#[]⟩, .string ⟨#[]⟩, .string ⟨#[]⟩, .bool false, .slice none 0 0, .string ⟨#[]⟩, .string ⟨#[]⟩, .int .i64 0, .int .i64 0, .slice (some ⟨bs, 0, none⟩) 3 3, .int .i64 0, .string ⟨#[]⟩, .string ⟨#[]⟩, .string ⟨#[]⟩, .string ⟨#[]⟩, .string ⟨#[]⟩, .bool false, .int .i64 0, .int .i64 0, .slice none 0 0, .slice none 0 0, .slice fa fn fc, .int .i64 0] 48 (0, 0))]) ?_ fun K => ?_
  rotate_left
  · refine T.regionS [(b8, .cells #[.string t.ty, .int .i64 t.b, .int .i64 t.e, .slice am t.ks.length cm] 69 (0, 0)), (b4, .cells #[.int .i64 4, .int .i64 0, .string ⟨#[]⟩, .string ⟨#[]⟩, .string ⟨#[]⟩, .string ⟨#[]⟩, .bool false, .slice none 0 0, .string ⟨#[]⟩, .string ⟨#[]⟩, .int .i64 0, .int .i64 0, .slice (some ⟨bs, 0, none⟩) 3 3, .int .i64 0, .string ⟨#[]⟩, .string ⟨#[]⟩, .string ⟨#[]⟩, .string ⟨#[]⟩, .string ⟨#[]⟩, .bool false, .int .i64 0, .int .i64 0, .slice none 0 0, .slice none 0 0, .slice fa fn fc, .int .i64 0] 48 (0, 0)), (b3, .cells #[c.va, .slice at1 c.tk.length ct, .slice (some ⟨bx, offx, none⟩) c.tx.length cx, c.vr, c.vn, c.vh, c.vs] 30 (0, 0))] 15 (by kernel_rfl) ?_; refine TS.take 0 rfl (by kernel_rfl) (by kernel_rfl) (by kernel_rfl) (by kernel_rfl) (PV.loadAll rfl zq0 (by exact rfl)) Wanted.none rfl rfl ?_; refine TS.take 1 rfl (by kernel_rfl) (by kernel_rfl) (by kernel_rfl) (by kernel_rfl) (PV.fieldAddr rfl) Wanted.none rfl rfl ?_; refine TS.take 2 rfl (by kernel_rfl) (by kernel_rfl) (by kernel_rfl) (by kernel_rfl) (PV.loadAgg rfl zq0 (by exact rfl) (by exact rfl)) Wanted.none rfl rfl ?_; refine TS.take 4 rfl (by kernel_rfl) (by kernel_rfl) (by kernel_rfl) (by kernel_rfl) (PV.fieldAddr rfl) Wanted.none rfl rfl ?_; refine TS.take 5 rfl (by kernel_rfl) (by kernel_rfl) (by kernel_rfl) (by kernel_rfl) (PV.load1 rfl zq0 rfl) Wanted.none rfl rfl ?_; refine TS.take 6 rfl (by kernel_rfl) (by kernel_rfl) (by kernel_rfl) (by kernel_rfl) (PV.fieldAddr rfl) Wanted.none rfl rfl ?_; refine TS.take 7 rfl (by kernel_rfl) (by kernel_rfl) (by kernel_rfl) (by kernel_rfl) (PV.load1 rfl zq0 rfl) Wanted.none rfl rfl ?_; refine TS.take 8 rfl (by kernel_rfl) (by kernel_rfl) (by kernel_rfl) (by kernel_rfl) (PV.fieldAddr rfl) Wanted.none rfl rfl ?_; refine TS.take 9 rfl (by kernel_rfl) (by kernel_rfl) (by kernel_rfl) (by kernel_rfl) (PV.load1 rfl zq0 rfl) Wanted.none rfl rfl ?_; refine TS.take 10 rfl (by kernel_rfl) (by kernel_rfl) (by kernel_rfl) (by kernel_rfl) (PV.lenSl rfl) Wanted.none rfl rfl ?_; refine TS.take 11 rfl (by kernel_rfl) (by kernel_rfl) (by kernel_rfl) (by kernel_rfl) (PV.min2 rfl rfl) Wanted.none rfl rfl ?_
    refine TS.ways [3, 12] (by kernel_rfl) rfl zq20 ⟨⟨_, rfl, ?_⟩, ⟨_, rfl, ?_⟩, trivial⟩
    · (refine T.callX Wanted.none rfl rfl hlb ?_; rintro _ rfl); refine so ?_; refine TS.back ?_
      refine TS.ways [12] (by kernel_rfl) rfl zq20 ⟨⟨_, rfl, ?_⟩, trivial⟩
      (refine T.noneMap Wanted.none rfl ?_; intro b34); refine so ?_; refine TS.back ?_; refine TS.take 13 rfl (by kernel_rfl) (by kernel_rfl) (by kernel_rfl) (by kernel_rfl) (PV.build rfl zq12) Wanted.none rfl rfl ?_
      refine TS.ways [14] (by kernel_rfl) rfl zq20 ⟨⟨_, rfl, ?_⟩, trivial⟩
      (refine T.box Wanted.none rfl rfl zq15 ?_; intro b36); refine so ?_; refine TS.back ?_
      refine TS.ways [15] (by kernel_rfl) rfl zq20 ⟨⟨_, rfl, ?_⟩, trivial⟩
      refine yq0 ?_; refine TS.back ?_; refine TS.done (by kernel_rfl) (by kernel_rfl) ?_; (exact K (_, _) _ _ trivial zq8 (by repeat (first | exact Sel.refl _ | exact Sel.nil | (refine Sel.cons zq1 ?_) | (refine Sel.app zq1 ?_) | exact Sel.one zq1)))
    · (refine T.noneMap Wanted.none rfl ?_; intro b34); refine so ?_; refine TS.back ?_
      refine TS.ways [3] (by kernel_rfl) rfl zq20 ⟨⟨_, rfl, ?_⟩, trivial⟩
      (refine T.callX Wanted.none rfl rfl hlb ?_; rintro _ rfl); refine so ?_; refine TS.back ?_; refine TS.take 13 rfl (by kernel_rfl) (by kernel_rfl) (by kernel_rfl) (by kernel_rfl) (PV.build rfl zq12) Wanted.none rfl rfl ?_
      refine TS.ways [14] (by kernel_rfl) rfl zq20 ⟨⟨_, rfl, ?_⟩, trivial⟩
      (refine T.box Wanted.none rfl rfl zq15 ?_; intro b36); refine so ?_; refine TS.back ?_
      refine TS.ways [15] (by kernel_rfl) rfl zq20 ⟨⟨_, rfl, ?_⟩, trivial⟩
      refine yq0 ?_; refine TS.back ?_; refine TS.done (by kernel_rfl) (by kernel_rfl) ?_; (exact K (_, _) _ _ trivial zq8 (by repeat (first | exact Sel.refl _ | exact Sel.nil | (refine Sel.cons zq1 ?_) | (refine Sel.app zq1 ?_) | exact Sel.one zq1)))
  rintro ⟨br, bk⟩ _
  dsimp only
  rw [hmin]
  refine T.freezeB (b := b4) zq1 ?_
  intro H1 hle1 hb4
  refine T.freezeB (b := br) zq1 ?_
  intro H2 hle2 hbr
  refine zs3 ?_; refine yq11 ?_; refine yq4 ?_; refine sf ?_; refine sm ?_; refine sv (PV.build rfl zq12) ?_
  have hQ2 : QuR H2 kind b4 bs bt := ⟨⟨_, fa, fn, fc, hle2 _ _ hb4⟩, hp.mono (hle1.trans hle2)⟩
  have hR2 : RunR H2 c kind b4 bs bt br bk t.b t.e := ⟨by rw [hvt, hvx]; exact hbr, hQ2, hc.mono (hle1.trans hle2), by omega⟩
  have hre := reach_s (c := c) (br := br) (bk := bk) (tb := t.b) (te := t.e) (a : Int) (by omega) H2 #[] 0 hR2 ⟨[], MapB.empty _ 0, by simp⟩
  unfold stV Pid.ad at hre
  dsimp only at hre
  refine T.callW Wanted.none rfl rfl hre zq1 ?_
  rintro _ H3 _ hle3 ⟨bS, ek, ck, rfl, ⟨er, cr, lr, hb, hsr, hmr⟩, rfl, hK3⟩
  have hR3 := hR2.mono hle3
  have has := assignment_fn hR3
  skip
  refine T.rangeMap un_set Wanted.none rfl rfl hsr (.fro hb) ?_
  intro r1 hr1
  refine so ?_; refine T.block ?_
  have hlr : lr.length ≤ 1001 := nodup_bound 1001 lr hsr.nd fun x hx => by
    have := (hmr x).1 hx
    simp only [Dn] at this
    omega
  unfold stV at has
  refine T.loopK [(42, Value.pointer (some { block := r1, off := 0 })), (9, Value.pointer (some { block := br, off := 0 })), (2, Value.int IntKind.i64 (↑a : Int))] zq8 (γ := FrG) (fun g => Rnd stV er cr cr cr g.seen g.left ∧ lr.Perm (g.L.map (·.e) ++ g.left.map (·.1)) ∧ RowV 71 encM 3 g.v g.lv g.L ∧ (∀ m ∈ g.L, m.b = (a : Int) ∧ m.ls = [] ∧ ∃ ad cap, m.v = .slice ad 0 cap)) (fun g => [(10, g.v)]) (fun g => g.lv ++ [(r1, .mapIter (some bS) cr g.seen cr)]) (fun _ => H3) (fun g => g.left.length) ⟨#[], setK lr, .slice none 0 0, [], []⟩ ⟨hr1, by rw [setK_keys]; exact List.Perm.refl _, Vec.nil _ _, by simp⟩ zq8 (by repeat (first | exact Sel.refl _ | exact Sel.nil | (refine Sel.cons zq1 ?_) | (refine Sel.app zq1 ?_) | exact Sel.one zq1)) rfl ?_
  rintro ⟨seen, left, v, lv, L⟩ ⟨g1, g2, g3, g4⟩
  dsimp only at g1 g2 g3 g4 ⊢
  obtain ⟨adv, capv, rfl⟩ := g3.val
  have hLl : L.length ≤ 1001 := by
    have := g2.length_eq
    rw [List.length_append, List.length_map] at this
    omega
  refine zs3 ?_; refine T.nextMap Wanted.none rfl rfl (.fro hb) g1 lv rfl ?_ ?_
  · intro hl0
    subst hl0
    rw [List.map_nil, List.append_nil] at g2
    refine sv (PV.extract rfl rfl) ?_; refine so ?_; refine sq ?_; refine yq22 ?_; refine yq4 ?_
    have hnd : (L.map (·.e)).Nodup := g2.nodup_iff.1 hsr.nd
    have hEv := ends_enc (a : Int) L hnd fun m hm => (g4 m hm).1
    have hlab := labF_empty L fun m hm => (g4 m hm).2.2
    have g3' : Vec 71 3 (.slice adv (L.map (·.e)).length capv) lv (L.map (·.e)).length ((L.map (·.e)).flatMap (encE (a : Int) (labF L))) := by
      rw [← hEv, List.length_map]; exact g3
    have hso := sortE_fn (a : Int) (labF L) hlab (L.map (·.e)) _ lv H3 g3' (by rw [List.length_map]; omega)
    rw [List.length_map] at hso
    refine T.callW Wanted.none rfl rfl hso zq1 ?_
    rintro _ H4 lv2 _ ⟨rfl, hH, hv2⟩
    have hH := hH.symm
    subst hH
    refine zs1 ?_; refine sm ?_; refine yq0 ?_; refine T.freezeP (lv := lv2) hv2 zq1 ?_
    intro H5 hle5 hs5
    refine T.retF (Lv.fin (RV.tmp rfl rfl) ⟨(sortI (L.map (·.e))).map fun e => ⟨(a : Int), e, labF L e, []⟩, ⟨?_, ?_⟩, ?_⟩)
    · rw [List.length_map, sortI_len, List.length_map, List.flatMap_map]
      exact hs5
    · intro m hm
      obtain ⟨e, _, rfl⟩ := List.mem_map.1 hm
      obtain ⟨ad, cap, he⟩ := hlab e
      exact ⟨by dsimp only; rw [he]; exact SlR.empty, by simp⟩
    · have hrun : runL c kind t a = (sortI (L.map (·.e))).map fun e => ((a : Int), e) := by
        refine sorted_ext ltC_sto _ _ (runL_sorted c kind t a) ?_ fun s => ?_
        · rw [List.pairwise_map]
          exact (sortI_pw hnd).imp fun {x y} hxy => by unfold ltC; right; exact ⟨rfl, hxy⟩
        · rw [runL_mem, List.mem_map]
          constructor
          · rintro ⟨q1, e, q2, q3, q4, rfl⟩
            refine ⟨(e : Int), ?_, rfl⟩
            rw [sortI_mem, ← g2.mem_iff, hmr]
            simp only [Dn]
            exact ⟨q1, by omega, by omega, q4⟩
          · rintro ⟨e, he, rfl⟩
            rw [sortI_mem, ← g2.mem_iff, hmr] at he
            simp only [Dn] at he
            obtain ⟨q1, q2, q3, q4⟩ := he
            exact ⟨q1, e.toNat, by omega, by omega, by rw [Int.toNat_of_nonneg (by omega)]; exact q4, by rw [Int.toNat_of_nonneg (by omega)]⟩
      rw [hrun, List.map_map, List.map_map]
      rfl
  · intro e v2 left' seen' hp' g1' hcur
    have hem : e ∈ lr := g2.mem_iff.2 (List.mem_append_right _ (List.mem_map.2 ⟨_, hp'.mem_iff.2 List.mem_cons_self, rfl⟩))
    have hed := (hmr e).1 hem
    simp only [Dn] at hed
    refine sv (PV.extract rfl rfl) ?_; refine so ?_; refine sq ?_; refine T.condT rfl rfl ?_; refine T.skip ?_; refine T.block ?_; refine zs3 ?_; refine sv (PV.entryMap rfl (.fro hb) g1'.nd hcur zq2) ?_
    have hase := has e
    refine sv (PV.extract rfl rfl) ?_; refine sy fun b11 => ?_; refine yq13 ?_; refine yq6 ?_; refine sm ?_; refine sv (PV.gtr rfl rfl) ?_; refine so ?_; refine sC rfl (by omega) ?_
    (repeat refine sq ?_)
    refine T.regionS [(b11, .cells #[.int .i64 e, .int .i64 0, .int .i64 0, .int .i64 0] 146 (0, 0))] 10 (by kernel_rfl) ?_; refine TS.take 0 rfl (by kernel_rfl) (by kernel_rfl) (by kernel_rfl) (by kernel_rfl) (PV.move rfl) Wanted.none rfl rfl ?_; refine TS.take 1 rfl (by kernel_rfl) (by kernel_rfl) (by kernel_rfl) (by kernel_rfl) (PV.move rfl) Wanted.none rfl rfl ?_; refine TS.take 2 rfl (by kernel_rfl) (by kernel_rfl) (by kernel_rfl) (by kernel_rfl) (PV.fieldAddr rfl) Wanted.none rfl rfl ?_; refine TS.take 3 rfl (by kernel_rfl) (by kernel_rfl) (by kernel_rfl) (by kernel_rfl) (PV.load1 rfl zq0 rfl) Wanted.none rfl rfl ?_; refine TS.take 4 rfl (by kernel_rfl) (by kernel_rfl) (by kernel_rfl) (by kernel_rfl) (PV.move rfl) Wanted.none rfl rfl ?_; refine TS.take 5 rfl (by kernel_rfl) (by kernel_rfl) (by kernel_rfl) (by kernel_rfl) (PV.loadAll rfl zq0 (by exact rfl)) Wanted.none rfl rfl ?_
    refine TS.ways [6] (by kernel_rfl) rfl zq20 ⟨⟨_, rfl, ?_⟩, trivial⟩
    (refine T.callX Wanted.none rfl rfl hase ?_; rintro _ ⟨ad57, cap57, rfl⟩); refine so ?_; refine TS.back ?_; refine TS.take 7 rfl (by kernel_rfl) (by kernel_rfl) (by kernel_rfl) (by kernel_rfl) (PV.build rfl zq12) Wanted.none rfl rfl ?_
    refine TS.ways [8] (by kernel_rfl) rfl zq20 ⟨⟨_, rfl, ?_⟩, trivial⟩
    (refine T.buildSlice Wanted.none rfl rfl zq11 (by exact rfl) (by exact rfl) ?_; intro b59); refine so ?_; refine TS.back ?_
    refine TS.ways [9] (by kernel_rfl) rfl zq20 ⟨⟨_, rfl, ?_⟩, trivial⟩
    (refine T.appendP (lv := lv) Wanted.none rfl rfl rfl g3 (Src.cells (m := 1) (ys := encM ⟨(a : Int), e, .slice ad57 0 cap57, []⟩) (.own zq2) rfl rfl) (one_encM (H := H3) (m := ⟨(a : Int), e, .slice ad57 0 cap57, []⟩) ⟨SlR.empty, by simp⟩) (by omega) zq1 ?_; intro v60 lv60 hv60 _; obtain ⟨ad60, cap60, rfl⟩ := hv60.val); refine so ?_; refine TS.back ?_
    refine TS.ways [10] (by kernel_rfl) rfl zq20 ⟨⟨_, rfl, ?_⟩, trivial⟩
    refine yq0 ?_; refine TS.back ?_; refine TS.done (by kernel_rfl) (by kernel_rfl) ?_; refine T.blkEnd ?_
    refine T.nextP ⟨seen', left', _, lv60, L ++ [⟨(a : Int), e, .slice ad57 0 cap57, []⟩]⟩ ⟨g1', ?_, MtV.snoc hv60, fun m hm => ?_⟩ (len_step hp') zq8 (by repeat (first | exact Sel.refl _ | exact Sel.nil | (refine Sel.cons zq1 ?_) | (refine Sel.app zq1 ?_) | exact Sel.one zq1)) rfl
    · dsimp only
      rw [List.map_append]
      exact perm_step g2 hp'
    · rcases List.mem_append.1 hm with hm | hm
      · exact g4 m hm
      · obtain rfl := List.mem_singleton.1 hm
        exact ⟨rfl, rfl, _, _, rfl⟩

end Go.Proofs.YtbcadnjfegiakaaGreatDoor
namespace Go.Proofs.YtbcadnjfegiakaaGreatDoor
open Go.RowKit


def s3 (s : Sp) : Int × Int × List Int := (s.1, s.2, [])
theorem rowW_len (p : Int → Int → Bool) (b m : Nat) : (rowW p b m).length ≤ m := by
  unfold rowW
  rw [List.length_map]
  exact Nat.le_trans (List.length_filter_le _ _) (by rw [List.length_range']; omega)
theorem allW_len (p : Int → Int → Bool) (n : Nat) : ∀ b, (allW p n b).length ≤ b * n
  | 0 => by simp [allW]
  | b + 1 => by
    rw [allW_succ, List.length_append, Nat.succ_mul]
    exact Nat.add_le_add (allW_len p n b) (rowW_len p b n)
theorem RowV.join {v : Value} {lv : List (Nat × Obj)} {l m : List Mt} (h : Vec 71 3 v lv (l.length + m.length) (l.flatMap encM ++ m.flatMap encM)) : RowV 71 encM 3 v lv (l ++ m) := by
  unfold RowV
  rw [List.length_append, List.flatMap_append]
  exact h
structure MaG where
  i : Nat
  H : Hp
  v : Value
  lv : List (Nat × Obj)
  L : List Mt
set_option maxHeartbeats 8000000 in
theorem matches_in (c : Cp) (kind : ByteArray) (bs bt : Nat) (fa : Option Addr) (fc : Nat) (fs : List Fl) (H : Hp) (hc : CpA H c) (hg : cpGood c) (hp : PtR H kind bs bt) (hn : validName kind = true) (hf : FlL H (.slice fa fs.length fc) fs) (hfl : fs.length ≤ 1000) (hok : okF fs) (hlt : c.tk.length ≤ 24) :
    Fn Tryz.prog 17 #[cpV c, quV bs fa fs.length fc] H (fun u H' => ∃ v L, u = .tuple #[v, .int .i64 0] ∧ MtL H' v L ∧ L.map mk3 = (allW (wntB c kind) c.tk.length c.tk.length).map s3) := by
  have hva := qValidate_fn kind bs bt fa fc fs c.att c.va H hp hn hf hfl hok hc.a
  have hfr := fun (H' : Hp) (hle : H.le H') (a : Nat) (ha : a < c.tk.length) (i : Nat) (t : Rg) (hi : c.tx[i]? = some t) h1 h2 => from_fn c kind bs bt fa fs.length fc a H' (hc.mono hle) hg (hp.mono hle) hn (by omega) ha hi h1 h2
  obtain ⟨at1, ct, hvt⟩ := hc.t.len
  obtain ⟨aa, ca, hvaa⟩ := hc.a.len
  unfold cpV at hfr ⊢
  rw [hvaa] at hva hfr ⊢
  rw [hvt] at hfr ⊢
  unfold quV quC encPn pS at *
  dsimp only [List.cons_append, List.nil_append] at *
  refine Fn.of_T (vs := [_, _]) Tryz.func17 rfl rfl fun w => ?_; refine zs3 ?_; (refine T.box Wanted.none rfl rfl zq15 ?_; intro b2); (refine T.box Wanted.none rfl rfl zq15 ?_; intro b3); refine sa ?_; refine yq11 ?_; refine zs3 ?_; refine sv (PV.loadAll rfl zq0 (by exact rfl)) ?_; refine yq6 ?_; refine T.callV Wanted.none rfl rfl (hva) ?_; refine yq28 ?_; refine yq29 ?_; refine yq7 ?_; refine zs3 ?_; refine yq11 ?_; refine zs3 ?_; refine yq12 ?_; refine yq35 ?_; refine T.loopK [(18, Value.int IntKind.i64 (↑c.tk.length : Int)), (3, Value.pointer (some { block := b3, off := 0 })), (2, Value.pointer (some { block := b2, off := 0 }))] zq8 (γ := MaG) (fun g => g.i ≤ c.tk.length ∧ H.le g.H ∧ RowV 71 encM 3 g.v g.lv g.L ∧ (∀ m ∈ g.L, LabOk g.H m) ∧ g.L.map mk3 = (allW (wntB c kind) c.tk.length g.i).map s3) (fun g => [(19, .int .i64 (g.i : Int)), (7, g.v)]) (fun g => g.lv ++ _) (fun g => g.H) (fun g => c.tk.length - g.i) ⟨0, H, .slice none 0 0, [], []⟩ ⟨by simp, Hp.le.refl _, Vec.nil _ _, by simp, rfl⟩ zq8 (by repeat (first | exact Sel.refl _ | exact Sel.nil | (refine Sel.cons zq1 ?_) | (refine Sel.app zq1 ?_) | exact Sel.one zq1)) rfl ?_
  rintro ⟨i, H1, v, lv, L⟩ ⟨g1, g2, g3, g4, g5⟩
  dsimp only at g1 g2 g3 g4 g5 ⊢
  obtain ⟨adv, capv, rfl⟩ := g3.val
  have hLl : L.length ≤ 576 := by
    have := congrArg List.length g5
    rw [List.length_map, List.length_map] at this
    rw [this]
    exact Nat.le_trans (allW_len _ _ _) (Nat.le_trans (Nat.mul_le_mul (show i ≤ 24 by omega) hlt) (by decide))
  by_cases hi : i < c.tk.length
  · obtain ⟨k, t, hk, h1, h2, _⟩ := textAt_eq hg.x (p := (i : Int)) (by omega) (by omega)
    have hfr' := hfr H1 g2 i hi k t hk h1 h2
    rw [runL_eq hg kind hk h1 h2] at hfr'
    refine yq16 ?_; refine sC rfl (by omega) ?_; refine yq25 ?_; refine yq4 ?_; refine yq28 ?_; refine sv (PV.loadAll rfl zq0 (by exact rfl)) ?_; refine sv (PV.loadAll rfl zq0 (by exact rfl)) ?_; refine sm ?_; (refine T.call Wanted.none rfl rfl hfr' ?_; rintro _ H26 hle26 ⟨L2, hm2, hl2⟩; obtain ⟨ad2, cap2, rfl⟩ := hm2.1.len; have hL2 : L2.length ≤ 24 := (by have h9 := congrArg List.length hl2; rw [List.length_map, List.length_map] at h9; have h8 := rowW_len (wntB c kind) i c.tk.length; omega)); (refine T.appendP (lv := lv) Wanted.none rfl rfl rfl g3 hm2.1.src (one_flatM hm2.2) (by omega) zq1 ?_; intro v27 lv27 hv27 _; obtain ⟨ad27, cap27, rfl⟩ := hv27.val); refine yq28 ?_; refine sv (PV.lenSl rfl) ?_; refine sv (PV.gtr rfl rfl) ?_; refine so ?_; refine sd rfl (by omega) ?_; refine T.skip ?_; refine yq33 ?_; refine yq23 ?_
    refine T.nextP ⟨i + 1, H26, _, lv27, L ++ L2⟩ ⟨by dsimp only; omega, g2.trans hle26, RowV.join hv27, fun m hm => ?_, ?_⟩ (by dsimp only; omega) zq8 (by repeat (first | exact Sel.refl _ | exact Sel.nil | (refine Sel.cons zq1 ?_) | (refine Sel.app zq1 ?_) | exact Sel.one zq1)) rfl
    · rcases List.mem_append.1 hm with hm | hm
      · exact (g4 m hm).mono hle26
      · exact hm2.2 m hm
    · dsimp only
      rw [List.map_append, g5, hl2, allW_succ, List.map_append]
      rfl
  · obtain rfl : i = c.tk.length := by omega
    refine yq16 ?_; refine yq21 ?_; refine yq4 ?_; refine sa ?_; refine yq0 ?_; refine T.freezeP (lv := lv) g3 zq1 ?_
    intro H2 hle2 hs2
    exact T.retF (Lv.fin (RV.tmp2 rfl rfl rfl) ⟨_, L, rfl, ⟨hs2, fun m hm => (g4 m hm).mono hle2⟩, g5⟩)

end Go.Proofs.YtbcadnjfegiakaaGreatDoor
