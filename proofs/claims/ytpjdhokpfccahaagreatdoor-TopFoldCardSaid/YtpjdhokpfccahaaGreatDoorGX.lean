/- the code points that fold alike.
   an expression that stands for a text: Match, MatchFold, and by its text. -/
import Derived.Test.YtpjdhokpfccahaaGreatDoorGW
namespace Go.Proofs.YtpjdhokpfccahaaGreatDoor
open Go.RowKit

def i32V (l : List Int) : List Value := l.map fun n => .int .i32 n
theorem matchV_fn (c : Nat) (H : Hp) (hc : sc c) : Fn Tryz.prog 123 #[.int .i32 (c : Int)] H (fun u H' => IsVar (fun w v => decide (w = v)) H' u c) := by
  have hc1 := hc.1
  refine Fn.of_T (vs := [.int .i32 (c : Int)]) Tryz.func123 rfl rfl fun _ => ?_; refine zs3 ?_; refine sa ?_; refine zs1 ?_; refine sm ?_; (refine T.buildSlice Wanted.none rfl rfl zq11 (by exact rfl) (by exact rfl) ?_; intro b4); refine sa ?_; refine so ?_
  have hv : Vec 21 1 (.slice (some ⟨b4, 0, none⟩) 1 1) [(b4, .cells ([Value.int .i32 (c : Int)] ++ []).toArray 21 (0, 0))] 1 [.int .i32 (c : Int)] := ⟨rfl, .inr ⟨b4, 1, _, rfl, rfl, Nat.le_refl _, by decide, by simp, rfl⟩⟩
  refine T.freezeP (lv := [(b4, .cells ([Value.int .i32 (c : Int)] ++ []).toArray 21 (0, 0))]) hv zq1 ?_
  intro H1 hle1 hsa
  refine T.retF (Lv.fin (RV.tmp rfl rfl) ⟨[(c : Int)], hsa, by simp, by simp; omega, fun w hw => ?_⟩)
  simp
  omega
theorem encB_inj {a b : Nat} (ha : sc a) (hb : sc b) (h : encB a = encB b) : a = b := by
  have h1 := decB_enc ha []
  have h2 := decB_enc hb []
  rw [h, h2] at h1
  exact (Prod.mk.inj h1).1.symm
def eN (v : Nat) : Nat := if v ≤ 1114111 ∧ (v < 55296 ∨ 57344 ≤ v) then v else 65533
theorem eN_sc (v : Nat) : sc (eN v) := by
  unfold eN
  split
  · rename_i h; exact h
  · exact ⟨by omega, .inr (by omega)⟩
theorem eN_of {v : Nat} (h : sc v) : eN v = v := by unfold eN; exact if_pos h
theorem encode_eN (v : Nat) : (Utf8.encode (v : Int)).data.toList = encB (eN v) := by
  by_cases h : sc v
  · rw [encode_B h, eN_of h]
  · have : Utf8.encode (v : Int) = Utf8.encode ((65533 : Nat) : Int) := by
      have h1 : Utf8.valid (v : Int) = false := by
        rw [Bool.eq_false_iff]
        intro h2; exact h (sc_valid.1 h2)
      have h2 : Utf8.valid ((65533 : Nat) : Int) = true := sc_valid.2 ⟨by omega, .inr (by omega)⟩
      unfold Utf8.encode
      rw [h1, h2]; rfl
    rw [this, encode_B ⟨by omega, .inr (by omega)⟩]
    unfold eN
    rw [if_neg (show ¬ (v ≤ 1114111 ∧ (v < 55296 ∨ 57344 ≤ v)) from h)]
/-- a text of one code point -/
def ch1 (r : Nat) : ByteArray := ⟨(encB r).toArray⟩
theorem ch1_list (r : Nat) : (ch1 r).data.toList = encB r := by simp [ch1]
theorem encode_ch1 (v : Nat) : Utf8.encode (v : Int) = ch1 (eN v) := ba_ext (by rw [encode_eN, ch1_list])
theorem fold_ch1 {r : Nat} (h : sc r) : foldS (ch1 r) = ch1 (lowN r) := ba_ext (by
  rw [foldS_list, ch1_list, ch1_list]
  have := fold_encL [r] (by intro x hx; rw [List.mem_singleton] at hx; subst hx; exact h)
  unfold encL at this
  simpa using this)
theorem ch1_size (r : Nat) : 1 ≤ (ch1 r).size ∧ (ch1 r).size ≤ 4 := by
  have := encB_len r
  rw [← size_list, ch1_list]; exact this
theorem ch1_inj {a b : Nat} (ha : sc a) (hb : sc b) : ch1 a = ch1 b ↔ a = b := ⟨fun h => encB_inj ha hb (by rw [← ch1_list a, h, ch1_list]), fun h => by rw [h]⟩
theorem foldC_fn (v : Nat) (H : Hp) : Fn Tryz.prog 7 #[.string (Utf8.encode (v : Int))] H (fun u _ => u = .string (ch1 (lowN (eN v)))) := by
  have h := fold_fn (Utf8.encode (v : Int)) H (by rw [encode_ch1]; have := ch1_size (eN v); omega)
  have e : (⟨(foldL (Utf8.encode (v : Int))).toArray⟩ : ByteArray) = ch1 (lowN (eN v)) := by
    show foldS (Utf8.encode (v : Int)) = _
    rw [encode_ch1, fold_ch1 (eN_sc v)]
  rwa [e] at h
/-- which of the candidates fold alike -/
def vrB (r : Nat) (v : Int) : Bool := decide (0 ≤ v) && decide (lowN (eN v.toNat) = r)
def vr3 (r : Nat) : List Int := [(r : Int), (r : Int) - 32, (r : Int) - 80]
structure VrG where
  i : Nat
  v : Value
  lv : List (Nat × Obj)
set_option maxRecDepth 100000 in
set_option maxHeartbeats 2000000 in
theorem variants_fn (c : Nat) (H : Hp) (hc : sc c) : Fn Tryz.prog 122 #[.int .i32 (c : Int)] H (fun u H' => IsVar (fun w v => decide (lowN w = lowN v)) H' u c) := by
  have hfc := foldC_fn c H
  rw [eN_of hc] at hfc
  obtain ⟨hlo, hlsc⟩ := lowN_eq hc
  obtain ⟨r, hr⟩ : ∃ r, lowN c = r := ⟨_, rfl⟩
  rw [hr] at hfc hlo hlsc
  have hsz := ch1_size r
  have hdec : Utf8.decode (ch1 r) 0 = (r, (ch1 r).size) := by
    rw [decode_B, List.drop_zero, ch1_list, ← size_list, ch1_list]
    have := decB_enc hlsc []
    rwa [List.append_nil] at this
  have hp0 : 0 < (ch1 r).size := by omega
  have hr1 := hlsc.1
  obtain ⟨F, hF⟩ : ∃ F, ch1 r = F := ⟨_, rfl⟩
  rw [hF] at hfc hsz hdec hp0
  refine Fn.of_T (vs := [.int .i32 (c : Int)]) Tryz.func122 rfl rfl fun _ => ?_; refine zs3 ?_; refine sa ?_; refine zs1 ?_; refine sa ?_; refine zs1 ?_; refine sm ?_; refine sv (PV.convRune rfl) ?_; refine T.callV Wanted.none rfl rfl (hfc) ?_; refine sa ?_; refine so ?_; refine sq ?_; refine zs3 ?_; refine sm ?_; (refine T.rangeStr Wanted.none rfl rfl ?_; intro b13); refine so ?_; refine T.block ?_; refine T.weak (e' := [(13, .pointer (some ⟨b13, 0, none⟩)), (4, .string F), (3, nlS)]) zq8 (List.Sublist.refl _) ?_; refine T.rounds 1 ?_; refine zs3 ?_; refine T.nextStr zq22 rfl rfl (by assumption) (by assumption) zq14 ?_; refine sv (PV.extract rfl rfl) ?_; refine so ?_; refine sq ?_; refine T.condT rfl rfl ?_; refine T.skip ?_; refine T.block ?_; refine zs3 ?_; refine sv (PV.extract rfl rfl) ?_; refine sa ?_; refine zs1 ?_; refine sm ?_; refine sm ?_; refine sv (PV.sub32 rfl rfl (by omega)) ?_; refine sm ?_; refine sv (PV.sub32 rfl rfl (by omega)) ?_; (refine T.buildSlice Wanted.none rfl rfl zq11 (by exact rfl) (by exact rfl) ?_; intro b22); refine sv (PV.lenSl rfl) ?_; refine sm ?_; refine so ?_
  refine T.block ?_
  have hq : ∀ j : Nat, j ≤ 3 → ((vr3 r).take j).length = j := fun j hj => by rw [List.length_take]; simp [vr3]; omega
  refine T.loopK [(23, Value.int IntKind.i64 (↑3 : Int)), (22, Value.slice (some { block := b22, off := 0 }) 3 3), (4, Value.string F)] zq8 (γ := VrG) (fun g => g.i ≤ 3 ∧ Vec 21 1 g.v g.lv (((vr3 r).take g.i).filter (vrB r)).length (i32V (((vr3 r).take g.i).filter (vrB r)))) (fun g => [(24, .int .i64 (g.i : Int)), (3, g.v), (13, .pointer (some ⟨b13, 0, none⟩))]) (fun g => g.lv ++ _) (fun _ => H) (fun g => 3 - g.i) ⟨0, nlS, []⟩ ⟨by simp, Vec.nil _ _⟩ zq8 (by repeat (first | exact Sel.refl _ | exact Sel.nil | (refine Sel.cons zq1 ?_) | (refine Sel.app zq1 ?_) | exact Sel.one zq1)) rfl ?_
  rintro ⟨i, v, lv⟩ ⟨g1, g2⟩
  dsimp only at g1 g2 ⊢
  obtain ⟨ad, cap, rfl⟩ := g2.val
  have hfl := List.length_filter_le (vrB r) ((vr3 r).take i)
  rw [hq i g1] at hfl
  by_cases hi : i < 3
  · obtain ⟨x, hx⟩ : ∃ x, (vr3 r)[i]? = some x := ⟨_, List.getElem?_eq_getElem (by simpa [vr3] using hi)⟩
    have hld : ([Value.int .i32 (r : Int), .int .i32 ((r : Int) - 32), .int .i32 ((r : Int) - 80)] ++ [])[0 + ((i : Nat) : Int).toNat * 1]? = some (.int .i32 x) := by
      have : (i32V (vr3 r))[i]? = some (.int .i32 x) := by simp [i32V, hx]
      rw [Int.toNat_natCast, Nat.mul_one, Nat.zero_add]
      simpa [i32V, vr3] using this
    have htk : ((vr3 r).take (i + 1)).filter (vrB r) = ((vr3 r).take i).filter (vrB r) ++ (if vrB r x = true then [x] else []) := by
      rw [List.take_add_one, hx, Option.toList_some, List.filter_append]
      congr 1
      by_cases h : vrB r x = true <;> simp [h]
    by_cases hx0 : x < 0
    · have hvb : vrB r x = false := by unfold vrB; rw [decide_eq_false (by omega)]; rfl
      rw [hvb] at htk
      refine zs3 ?_; refine sv (PV.lss rfl rfl) ?_; refine so ?_; refine sq ?_; refine sC rfl (by omega) ?_; refine T.skip ?_; refine sq ?_; refine T.block ?_; refine zs3 ?_; refine sv (PV.indexAddr rfl rfl (by omega)) ?_; refine sv (PV.load1 rfl zq0 (by assumption)) ?_; refine sa ?_; refine zs1 ?_; refine sm ?_; refine sv (PV.geq rfl rfl) ?_; refine sm ?_; refine T.setF (d := 30) rfl (by omega) ?_; refine sp ?_; refine sp ?_; refine sp ?_; refine sp ?_; refine sp ?_; refine sF ?_; refine so ?_; refine T.condF rfl rfl ?_; refine T.skip ?_; refine T.blkEnd ?_; refine sr ?_; refine sv (PV.add rfl rfl (by omega)) ?_; refine sm ?_; refine so ?_
      refine T.nextP ⟨i + 1, .slice ad _ cap, lv⟩ ⟨by dsimp only; omega, ?_⟩ (by dsimp only; omega) zq8 (by repeat (first | exact Sel.refl _ | exact Sel.nil | (refine Sel.cons zq1 ?_) | (refine Sel.app zq1 ?_) | exact Sel.one zq1)) rfl
      dsimp only
      rw [htk]
      simpa using g2
    · obtain ⟨y, rfl⟩ : ∃ y : Nat, x = (y : Int) := ⟨x.toNat, by omega⟩
      have hfy := foldC_fn y H
      by_cases hy : lowN (eN y) = r
      · have hvb : vrB r (y : Int) = true := by unfold vrB; rw [Int.toNat_natCast, decide_eq_true hy, decide_eq_true (by omega)]; rfl
        have heq : decide (ch1 (lowN (eN y)) = F) = true := decide_eq_true (by rw [hy, hF])
        rw [hvb] at htk
        refine zs3 ?_; refine sv (PV.lss rfl rfl) ?_; refine so ?_; refine sq ?_; refine sC rfl (by omega) ?_; refine T.skip ?_; refine sq ?_; refine T.block ?_; refine zs3 ?_; refine sv (PV.indexAddr rfl rfl (by omega)) ?_; refine sv (PV.load1 rfl zq0 (by assumption)) ?_; refine sa ?_; refine zs1 ?_; refine sm ?_; refine sv (PV.geq rfl rfl) ?_; refine sm ?_; refine gm ?_; refine gv (PV.convRune rfl) ?_; refine T.callV (Wanted.guard rfl rfl rfl) rfl rfl (hfy) ?_; refine gm ?_; refine gv (PV.seql rfl rfl) ?_; refine sT ?_; refine so ?_; refine T.condT rfl (by assumption) ?_; refine sr ?_; refine sm ?_; refine sm ?_; (refine T.buildSlice Wanted.none rfl rfl zq11 (by exact rfl) (by exact rfl) ?_; intro b39); (refine T.appendP (lv := lv) Wanted.none rfl rfl rfl g2 (Src.cells (m := 1) (ys := [.int .i32 (y : Int)]) (.own zq2) rfl rfl) (by intro v hv; rw [List.mem_singleton] at hv; subst hv; rfl) (by omega) zq1 ?_; intro v40 lv40 hv40 _; obtain ⟨ad40, cap40, rfl⟩ := hv40.val); refine sa ?_; refine so ?_; refine T.blkEnd ?_; refine sr ?_; refine sv (PV.add rfl rfl (by omega)) ?_; refine sm ?_; refine so ?_
        refine T.nextP ⟨i + 1, _, lv40⟩ ⟨by dsimp only; omega, ?_⟩ (by dsimp only; omega) zq8 (by repeat (first | exact Sel.refl _ | exact Sel.nil | (refine Sel.cons zq1 ?_) | (refine Sel.app zq1 ?_) | exact Sel.one zq1)) rfl
        dsimp only
        rw [htk, List.length_append]
        simpa [i32V] using hv40
      · have hvb : vrB r (y : Int) = false := by unfold vrB; rw [Int.toNat_natCast, decide_eq_false hy, Bool.and_false]
        have heq : decide (ch1 (lowN (eN y)) = F) = false := decide_eq_false (by rw [← hF, ch1_inj (lowN_eq (eN_sc y)).2 hlsc]; exact hy)
        rw [hvb] at htk
        refine zs3 ?_; refine sv (PV.lss rfl rfl) ?_; refine so ?_; refine sq ?_; refine sC rfl (by omega) ?_; refine T.skip ?_; refine sq ?_; refine T.block ?_; refine zs3 ?_; refine sv (PV.indexAddr rfl rfl (by omega)) ?_; refine sv (PV.load1 rfl zq0 (by assumption)) ?_; refine sa ?_; refine zs1 ?_; refine sm ?_; refine sv (PV.geq rfl rfl) ?_; refine sm ?_; refine gm ?_; refine gv (PV.convRune rfl) ?_; refine T.callV (Wanted.guard rfl rfl rfl) rfl rfl (hfy) ?_; refine gm ?_; refine gv (PV.seql rfl rfl) ?_; refine sT ?_; refine so ?_; refine T.condF rfl (by assumption) ?_; refine T.skip ?_; refine T.blkEnd ?_; refine sr ?_; refine sv (PV.add rfl rfl (by omega)) ?_; refine sm ?_; refine so ?_
        refine T.nextP ⟨i + 1, .slice ad _ cap, lv⟩ ⟨by dsimp only; omega, ?_⟩ (by dsimp only; omega) zq8 (by repeat (first | exact Sel.refl _ | exact Sel.nil | (refine Sel.cons zq1 ?_) | (refine Sel.app zq1 ?_) | exact Sel.one zq1)) rfl
        dsimp only
        rw [htk]
        simpa using g2
  · obtain rfl : i = 3 := by omega
    rw [List.take_of_length_le (by simp [vr3])] at g2 hfl
    rw [List.take_of_length_le (by simp [vr3])]
    refine zs3 ?_; refine sv (PV.lss rfl rfl) ?_; refine so ?_; refine sq ?_; refine T.condF rfl rfl ?_; refine T.exit rfl ?_; refine T.blkEnd ?_; refine T.again ?_; refine zs3 ?_; refine T.nextStrEnd zq22 rfl rfl zq2 (by omega) ?_; refine sv (PV.extract rfl rfl) ?_; refine so ?_; refine sq ?_; refine T.condF rfl rfl ?_; refine T.exit rfl ?_; refine zs3 ?_; refine sm ?_; refine sa ?_; refine so ?_; refine T.freezeP (lv := lv) g2 zq1 ?_
    intro Ha hla hsa
    refine T.retF (Lv.fin (RV.tmp rfl rfl) ⟨(vr3 r).filter (vrB r), hsa, by omega, fun v hv => ?_, fun w hw => ?_⟩)
    · have := (List.mem_filter.1 hv).1
      simp [vr3] at this
      omega
    · rw [List.mem_filter]
      show _ ↔ decide (lowN w = lowN c) = true
      rw [hr]
      have hew := eN_of hw
      unfold vrB
      rw [Int.toNat_natCast, hew]
      constructor
      · rintro ⟨_, h⟩
        simp only [Bool.and_eq_true, decide_eq_true_eq] at h ⊢
        exact h.2
      · intro h
        have h := of_decide_eq_true h
        refine ⟨?_, by simp [h]⟩
        have h1 := (lowN_eq hw).1
        rw [h] at h1
        unfold lowerR at h1
        simp only [vr3, List.mem_cons, List.not_mem_nil, or_false]
        split at h1
        · omega
        · split at h1
          · omega
          · omega
end Go.Proofs.YtpjdhokpfccahaaGreatDoor
namespace Go.Proofs.YtpjdhokpfccahaaGreatDoor
open Go.RowKit

/-- what a folding, or an exact, match asks of two code points -/
def okF : Bool → Nat → Nat → Bool
  | true, w, v => decide (lowN w = lowN v)
  | false, w, v => decide (w = v)
theorem rxMatchE_fn (e : Value) (ws : List Nat) (s : ByteArray) (H : Hp) (he : LitR H e ws) (hws : ∀ w ∈ ws, sc w) (hl : ws.length ≤ 60) (hs : VvS s) :
    Fn Tryz.prog 79 #[e, .string s] H (fun u _ => u = .bool (mt (okF false) ws (scs s.data.toList))) := by
  have hm := rxMatch_fn e ws s 123 (okF false) H he hws hl hs (fun c H' hc => matchV_fn c H' hc)
  cases he with
  | @one k w h =>
    refine Fn.of_T (vs := [rxV 1 (rg1 k) nlS, .string s]) Tryz.func79 rfl rfl fun _ => ?_; refine zs3 ?_; (refine T.box Wanted.none rfl rfl zq15 ?_; intro b2); refine sa ?_; refine zs1 ?_; refine sv (PV.loadAll rfl zq0 (by exact rfl)) ?_; refine sm ?_; refine T.callV Wanted.none rfl rfl (hm) ?_; refine sa ?_; refine so ?_
    exact T.retF (Lv.fin (RV.tmp rfl rfl) rfl)
  | @cat ad cap ks _ c1 c2 c3 c4 =>
    refine Fn.of_T (vs := [rxV 2 nlS (.slice ad ks.length cap), .string s]) Tryz.func79 rfl rfl fun _ => ?_; refine zs3 ?_; (refine T.box Wanted.none rfl rfl zq15 ?_; intro b2); refine sa ?_; refine zs1 ?_; refine sv (PV.loadAll rfl zq0 (by exact rfl)) ?_; refine sm ?_; refine T.callV Wanted.none rfl rfl (hm) ?_; refine sa ?_; refine so ?_
    exact T.retF (Lv.fin (RV.tmp rfl rfl) rfl)
theorem rxMatchF_fn (e : Value) (ws : List Nat) (s : ByteArray) (H : Hp) (he : LitR H e ws) (hws : ∀ w ∈ ws, sc w) (hl : ws.length ≤ 60) (hs : VvS s) :
    Fn Tryz.prog 78 #[e, .string s] H (fun u _ => u = .bool (mt (okF true) ws (scs s.data.toList))) := by
  have hm := rxMatch_fn e ws s 122 (okF true) H he hws hl hs (fun c H' hc => variants_fn c H' hc)
  cases he with
  | @one k w h =>
    refine Fn.of_T (vs := [rxV 1 (rg1 k) nlS, .string s]) Tryz.func78 rfl rfl fun _ => ?_; refine zs3 ?_; (refine T.box Wanted.none rfl rfl zq15 ?_; intro b2); refine sa ?_; refine zs1 ?_; refine sv (PV.loadAll rfl zq0 (by exact rfl)) ?_; refine sm ?_; refine T.callV Wanted.none rfl rfl (hm) ?_; refine sa ?_; refine so ?_
    exact T.retF (Lv.fin (RV.tmp rfl rfl) rfl)
  | @cat ad cap ks _ c1 c2 c3 c4 =>
    refine Fn.of_T (vs := [rxV 2 nlS (.slice ad ks.length cap), .string s]) Tryz.func78 rfl rfl fun _ => ?_; refine zs3 ?_; (refine T.box Wanted.none rfl rfl zq15 ?_; intro b2); refine sa ?_; refine zs1 ?_; refine sv (PV.loadAll rfl zq0 (by exact rfl)) ?_; refine sm ?_; refine T.callV Wanted.none rfl rfl (hm) ?_; refine sa ?_; refine so ?_
    exact T.retF (Lv.fin (RV.tmp rfl rfl) rfl)
theorem exErr_fn (q : ByteArray) (ws : List Nat) (H : Hp) (hT : U8T H) (h : QText q ws) : Fn Tryz.prog 75 #[.string q] H (fun u _ => u = .int .i64 0) := by
  have hp := parse_rx q ws H hT h
  refine Fn.of_T (vs := [.string q]) Tryz.func75 rfl rfl fun _ => ?_; refine zs3 ?_; refine sa ?_; refine zs1 ?_; refine sm ?_; refine T.call Wanted.none rfl rfl hp ?_
  rintro _ H1 hle1 ⟨e, rfl, he⟩
  cases he with
  | one h =>
    refine sm ?_; refine sv (PV.extract rfl rfl) ?_; refine sv (PV.extract rfl rfl) ?_; refine sv (PV.extract rfl rfl) ?_; refine sy fun b3 => ?_; refine T.storeA Wanted.none rfl rfl zq8 (by exact rfl) zq14 zq13 ?_; refine sa ?_; refine sa ?_; refine zs1 ?_; refine sm ?_; refine sa ?_; refine so ?_
    exact T.retF (Lv.fin (RV.tmp rfl rfl) rfl)
  | cat c1 c2 c3 c4 =>
    refine sm ?_; refine sv (PV.extract rfl rfl) ?_; refine sv (PV.extract rfl rfl) ?_; refine sv (PV.extract rfl rfl) ?_; refine sy fun b3 => ?_; refine T.storeA Wanted.none rfl rfl zq8 (by exact rfl) zq14 zq13 ?_; refine sa ?_; refine sa ?_; refine zs1 ?_; refine sm ?_; refine sa ?_; refine so ?_
    exact T.retF (Lv.fin (RV.tmp rfl rfl) rfl)
theorem exMatch_fn (q s : ByteArray) (fold : Bool) (ws : List Nat) (H : Hp) (hT : U8T H) (h : QText q ws) (hs : VvS s) :
    Fn Tryz.prog 44 #[.string q, .string s, .bool fold] H (fun u _ => u = .bool (mt (okF fold) ws (scs s.data.toList))) := by
  have hp := parse_rx q ws H hT h
  refine Fn.of_T (vs := [.string q, .string s, .bool fold]) Tryz.func44 rfl rfl fun _ => ?_; refine zs3 ?_; refine sa ?_; refine zs1 ?_; refine sm ?_; refine T.call Wanted.none rfl rfl hp ?_
  rintro _ H1 hle1 ⟨e, rfl, he⟩
  have hm1 := rxMatchE_fn e ws s H1 he h.sc h.n hs
  have hm2 := rxMatchF_fn e ws s H1 he h.sc h.n hs
  cases fold
  · cases he with
    | one h =>
      refine sm ?_; refine sv (PV.extract rfl rfl) ?_; refine sv (PV.extract rfl rfl) ?_; refine sv (PV.extract rfl rfl) ?_; refine sy fun b7 => ?_; refine T.storeA Wanted.none rfl rfl zq8 (by exact rfl) zq14 zq13 ?_; refine sa ?_; refine sa ?_; refine so ?_; refine sq ?_; refine zs3 ?_; refine sm ?_; refine sv (PV.neq rfl rfl) ?_; refine so ?_; refine T.condF rfl rfl ?_; refine T.skip ?_; refine sq ?_; refine zs3 ?_; refine sm ?_; refine so ?_; refine T.condF rfl rfl ?_; refine T.skip ?_; refine zs3 ?_; refine sv (PV.loadAll rfl zq0 (by exact rfl)) ?_; refine sm ?_; refine T.callV Wanted.none rfl rfl (hm1) ?_; refine sa ?_; refine so ?_
      exact T.retF (Lv.fin (RV.tmp rfl rfl) rfl)
    | cat c1 c2 c3 c4 =>
      refine sm ?_; refine sv (PV.extract rfl rfl) ?_; refine sv (PV.extract rfl rfl) ?_; refine sv (PV.extract rfl rfl) ?_; refine sy fun b7 => ?_; refine T.storeA Wanted.none rfl rfl zq8 (by exact rfl) zq14 zq13 ?_; refine sa ?_; refine sa ?_; refine so ?_; refine sq ?_; refine zs3 ?_; refine sm ?_; refine sv (PV.neq rfl rfl) ?_; refine so ?_; refine T.condF rfl rfl ?_; refine T.skip ?_; refine sq ?_; refine zs3 ?_; refine sm ?_; refine so ?_; refine T.condF rfl rfl ?_; refine T.skip ?_; refine zs3 ?_; refine sv (PV.loadAll rfl zq0 (by exact rfl)) ?_; refine sm ?_; refine T.callV Wanted.none rfl rfl (hm1) ?_; refine sa ?_; refine so ?_
      exact T.retF (Lv.fin (RV.tmp rfl rfl) rfl)
  · cases he with
    | one h =>
      refine sm ?_; refine sv (PV.extract rfl rfl) ?_; refine sv (PV.extract rfl rfl) ?_; refine sv (PV.extract rfl rfl) ?_; refine sy fun b7 => ?_; refine T.storeA Wanted.none rfl rfl zq8 (by exact rfl) zq14 zq13 ?_; refine sa ?_; refine sa ?_; refine so ?_; refine sq ?_; refine zs3 ?_; refine sm ?_; refine sv (PV.neq rfl rfl) ?_; refine so ?_; refine T.condF rfl rfl ?_; refine T.skip ?_; refine sq ?_; refine zs3 ?_; refine sm ?_; refine so ?_; refine T.condT rfl rfl ?_; refine zs3 ?_; refine sv (PV.loadAll rfl zq0 (by exact rfl)) ?_; refine sm ?_; refine T.callV Wanted.none rfl rfl (hm2) ?_; refine sa ?_; refine so ?_
      exact T.retF (Lv.fin (RV.tmp rfl rfl) rfl)
    | cat c1 c2 c3 c4 =>
      refine sm ?_; refine sv (PV.extract rfl rfl) ?_; refine sv (PV.extract rfl rfl) ?_; refine sv (PV.extract rfl rfl) ?_; refine sy fun b7 => ?_; refine T.storeA Wanted.none rfl rfl zq8 (by exact rfl) zq14 zq13 ?_; refine sa ?_; refine sa ?_; refine so ?_; refine sq ?_; refine zs3 ?_; refine sm ?_; refine sv (PV.neq rfl rfl) ?_; refine so ?_; refine T.condF rfl rfl ?_; refine T.skip ?_; refine sq ?_; refine zs3 ?_; refine sm ?_; refine so ?_; refine T.condT rfl rfl ?_; refine zs3 ?_; refine sv (PV.loadAll rfl zq0 (by exact rfl)) ?_; refine sm ?_; refine T.callV Wanted.none rfl rfl (hm2) ?_; refine sa ?_; refine so ?_
      exact T.retF (Lv.fin (RV.tmp rfl rfl) rfl)
end Go.Proofs.YtpjdhokpfccahaaGreatDoor
