/- which leaves may follow; the code points that fold alike.
   whether an expression that stands for a text matches a text. -/
import Derived.Test.YtpjdhokpfccahaaGreatDoorGV
namespace Go.Proofs.YtpjdhokpfccahaaGreatDoor
open Go.RowKit

def nxN (n j : Nat) : Nat := if j < n then 2 ^ j else 0
theorem flN_at {n i : Nat} (h : i < n) : (flN n)[i]? = some (nxN n (i + 1)) := by
  unfold flN nxN
  rw [List.getElem?_map, List.getElem?_range h]; rfl
theorem nxN_lt {n j : Nat} (h : n ≤ 60) : nxN n j < 2 ^ 64 := by
  unfold nxN
  split
  · exact pow_lt (by omega)
  · decide
structure NxG where
  i : Nat
  x : Nat
set_option maxHeartbeats 1000000 in
theorem nextF_fn (bt : Nat) (ks : List Nat) (vL vF : Value) (j : Nat) (H : Hp) (h : TabR H bt ks vL vF) (hl : ks.length ≤ 60) (hj : j ≤ ks.length) :
    Fn Tryz.prog 152 #[.pointer (some ⟨bt, 0, none⟩), .int .u64 (lstN j : Int), .bool (decide (j = 0))] H (fun u _ => u = .int .u64 (nxN ks.length j : Int)) := by
  obtain ⟨h1, h2, h3⟩ := h
  obtain ⟨adL, cL, rfl⟩ := h2.len
  obtain ⟨adF, cF, rfl⟩ := h3.len
  by_cases h0 : j = 0
  · have hd : decide (j = 0) = true := decide_eq_true h0
    rw [hd]
    have hx : fstN ks.length = nxN ks.length j := by
      subst h0
      unfold fstN nxN
      by_cases hn : ks.length = 0
      · rw [if_pos hn, if_neg (by omega)]
      · rw [if_neg hn, if_pos (by omega)]
    refine Fn.of_T (vs := [.pointer (some ⟨bt, 0, none⟩), .int .u64 (lstN j : Int), .bool true]) Tryz.func152 rfl rfl fun _ => ?_; refine zs3 ?_; refine sa ?_; refine so ?_; refine sq ?_; refine zs3 ?_; refine sm ?_; refine so ?_; refine T.condT rfl rfl ?_; refine zs3 ?_; refine sm ?_; refine sv (PV.nilCheck rfl) ?_; refine sf ?_; refine sl ?_; refine sa ?_; refine so ?_
    exact T.retF (Lv.fin (RV.tmp rfl rfl) (by rw [hx]))
  · have hd : decide (j = 0) = false := decide_eq_false h0
    rw [hd]
    have hlst := lst_lt (k := j) (by omega)
    refine Fn.of_T (vs := [.pointer (some ⟨bt, 0, none⟩), .int .u64 (lstN j : Int), .bool false]) Tryz.func152 rfl rfl fun _ => ?_; refine zs3 ?_; refine sa ?_; refine so ?_; refine sq ?_; refine zs3 ?_; refine sm ?_; refine so ?_; refine T.condF rfl rfl ?_; refine T.skip ?_; refine zs3 ?_; refine sa ?_; refine so ?_; refine sq ?_; refine zs3 ?_; refine sm ?_; refine sv (PV.nilCheck rfl) ?_; refine sf ?_; refine sl ?_; refine sv (PV.lenSl rfl) ?_; refine sm ?_; refine so ?_; refine T.block ?_; refine T.loopK [(19, Value.int IntKind.i64 (↑ks.length : Int)), (18, Value.slice adF ks.length cF), (1, Value.int IntKind.u64 (↑(lstN j) : Int))] zq8 (γ := NxG) (fun g => g.i ≤ ks.length ∧ g.x = if j - 1 < g.i then nxN ks.length j else 0) (fun g => [(20, .int .i64 (g.i : Int)), (7, .int .u64 (g.x : Int))]) (fun _ => _) (fun _ => H) (fun g => ks.length - g.i) ⟨0, 0⟩ ⟨Nat.zero_le _, by simp⟩ zq8 (Sel.refl _) rfl ?_
    rintro ⟨i, x⟩ ⟨g1, g2⟩
    dsimp only at g1 g2 ⊢
    have hsh := shr_u64 (i := i) hlst
    have hbt := shr_bit (i := i) hlst
    rw [lst_bit] at hbt
    by_cases hi : i < ks.length
    · obtain ⟨b, off, cap, e, hs⟩ := SlR.elem (i := i) (vs := [.int .u64 (nxN ks.length (i + 1) : Int)]) h3 hi (by
        have := u64V_at (flN_at hi)
        obtain ⟨q1, q2⟩ := List.getElem?_eq_some_iff.1 this
        rw [Nat.mul_one, List.drop_eq_getElem_cons q1, q2]; rfl)
      injection e with e
      subst e
      by_cases hb : i = j - 1
      · rw [if_pos (by simp <;> omega)] at hbt
        have hx0 : x = 0 := by rw [g2, if_neg (by omega)]
        have hor := or_u64 (a := x) (b := nxN ks.length (i + 1)) (by rw [hx0]; decide) (nxN_lt hl)
        rw [hx0, Nat.zero_or] at hor
        subst hx0
        refine zs3 ?_; refine sv (PV.lss rfl rfl) ?_; refine so ?_; refine sq ?_; refine sC rfl (by omega) ?_; refine T.skip ?_; refine sq ?_; refine T.block ?_; refine zs3 ?_; refine sm ?_; refine sv (PV.indexAddr rfl rfl (by omega)) ?_; refine sv (PV.loadSub0 rfl (by assumption)) ?_; refine sa ?_; refine sa ?_; refine zs1 ?_; refine sm ?_; refine sm ?_; refine sv (PV.shrR rfl rfl (by assumption) (by omega)) ?_; refine sv (PV.bandR rfl rfl (by assumption)) ?_; refine sv (PV.eql rfl rfl) ?_; refine so ?_; refine T.condT rfl rfl ?_; refine sr ?_; refine sm ?_; refine sm ?_; refine sv (PV.borR rfl rfl (by assumption)) ?_; refine sa ?_; refine so ?_; refine T.blkEnd ?_; refine sr ?_; refine sv (PV.add rfl rfl (by omega)) ?_; refine sm ?_; refine so ?_
        refine T.nextP ⟨i + 1, nxN ks.length (i + 1)⟩ ⟨by dsimp only; omega, ?_⟩ (by dsimp only; omega) zq8 (by repeat (first | exact Sel.refl _ | exact Sel.nil | (refine Sel.cons zq1 ?_) | (refine Sel.app zq1 ?_) | exact Sel.one zq1)) rfl
        dsimp only
        rw [if_pos (by omega), show i + 1 = j by omega]
      · rw [if_neg (by simp <;> omega)] at hbt
        refine zs3 ?_; refine sv (PV.lss rfl rfl) ?_; refine so ?_; refine sq ?_; refine sC rfl (by omega) ?_; refine T.skip ?_; refine sq ?_; refine T.block ?_; refine zs3 ?_; refine sm ?_; refine sv (PV.indexAddr rfl rfl (by omega)) ?_; refine sv (PV.loadSub0 rfl (by assumption)) ?_; refine sa ?_; refine sa ?_; refine zs1 ?_; refine sm ?_; refine sm ?_; refine sv (PV.shrR rfl rfl (by assumption) (by omega)) ?_; refine sv (PV.bandR rfl rfl (by assumption)) ?_; refine sv (PV.eql rfl rfl) ?_; refine so ?_; refine T.condF rfl rfl ?_; refine T.skip ?_; refine T.blkEnd ?_; refine sr ?_; refine sv (PV.add rfl rfl (by omega)) ?_; refine sm ?_; refine so ?_
        refine T.nextP ⟨i + 1, x⟩ ⟨by dsimp only; omega, ?_⟩ (by dsimp only; omega) zq8 (by repeat (first | exact Sel.refl _ | exact Sel.nil | (refine Sel.cons zq1 ?_) | (refine Sel.app zq1 ?_) | exact Sel.one zq1)) rfl
        dsimp only
        rw [g2]
        by_cases hc : j - 1 < i
        · rw [if_pos hc, if_pos (by omega)]
        · rw [if_neg hc, if_neg (by omega)]
    · obtain rfl : i = ks.length := by omega
      rw [if_pos (by omega)] at g2
      subst g2
      refine zs3 ?_; refine sv (PV.lss rfl rfl) ?_; refine so ?_; refine sq ?_; refine sd rfl (by omega) ?_; refine T.exit rfl ?_; refine zs3 ?_; refine sm ?_; refine sa ?_; refine so ?_
      exact T.retF (Lv.fin (RV.tmp rfl rfl) rfl)
theorem rxContains_fn (k w : Nat) (c : Int) (H : Hp) (h : RgS H k w) (hc : -1000 ≤ c ∧ c ≤ 1114111) : Fn Tryz.prog 153 #[rg1 k, .int .i32 c] H (fun u _ => u = .bool (decide (c = (w : Int)))) := by
  have hs := h.open
  refine Fn.of_T (vs := [rg1 k, .int .i32 c]) Tryz.func153 rfl rfl fun _ => ?_
  by_cases h1 : c = (w : Int)
  · rw [decide_eq_true h1]
    refine zs3 ?_; refine sa ?_; refine so ?_; refine sq ?_; refine zs3 ?_; refine sm ?_; refine sv (PV.lenSl rfl) ?_; refine sm ?_; refine so ?_; refine T.block ?_; refine T.rounds 2 ?_; refine zs3 ?_; refine sv (PV.lss rfl rfl) ?_; refine so ?_; refine sq ?_; refine T.condT rfl rfl ?_; refine T.skip ?_; refine sq ?_; refine T.block ?_; refine zs3 ?_; refine sv (PV.indexAddr rfl rfl (by omega)) ?_; refine sv (PV.loadSubAll rfl (by assumption) (by exact rfl)) ?_; refine sy fun b6 => ?_; refine T.storeA Wanted.none rfl rfl zq8 (by exact rfl) zq14 zq13 ?_; refine zs1 ?_; refine sm ?_; refine sf ?_; refine sl ?_; refine sv (PV.geq rfl rfl) ?_; refine sm ?_; refine T.setT (d := 17) rfl (by omega) ?_; refine gm ?_; refine gf ?_; refine gl ?_; refine gv (PV.leq rfl rfl) ?_; refine sT ?_; refine so ?_; refine sC rfl (by omega) ?_; refine zs3 ?_; refine sa ?_
    refine so ?_
    exact T.retF (Lv.fin (RV.tmp rfl rfl) rfl)
  · rw [decide_eq_false h1]
    by_cases h2 : c < (w : Int)
    · refine zs3 ?_; refine sa ?_; refine so ?_; refine sq ?_; refine zs3 ?_; refine sm ?_; refine sv (PV.lenSl rfl) ?_; refine sm ?_; refine so ?_; refine T.block ?_; refine T.rounds 2 ?_; refine zs3 ?_; refine sv (PV.lss rfl rfl) ?_; refine so ?_; refine sq ?_; refine T.condT rfl rfl ?_; refine T.skip ?_; refine sq ?_; refine T.block ?_; refine zs3 ?_; refine sv (PV.indexAddr rfl rfl (by omega)) ?_; refine sv (PV.loadSubAll rfl (by assumption) (by exact rfl)) ?_; refine sy fun b6 => ?_; refine T.storeA Wanted.none rfl rfl zq8 (by exact rfl) zq14 zq13 ?_; refine zs1 ?_; refine sm ?_; refine sf ?_; refine sl ?_; refine sv (PV.geq rfl rfl) ?_; refine sm ?_; refine T.setF (d := 17) rfl (by omega) ?_; refine sp ?_; refine sp ?_; refine sp ?_; refine sp ?_; refine sF ?_; refine so ?_; refine T.condF rfl rfl ?_; refine T.skip ?_; refine T.blkEnd ?_
      refine sr ?_; refine sv (PV.add rfl rfl (by omega)) ?_; refine sm ?_; refine so ?_; refine T.again ?_; refine zs3 ?_; refine sv (PV.lss rfl rfl) ?_; refine so ?_; refine sq ?_; refine T.condF rfl rfl ?_; refine T.exit rfl ?_; refine zs3 ?_; refine sa ?_; refine so ?_
      exact T.retF (Lv.fin (RV.tmp rfl rfl) rfl)
    · refine zs3 ?_; refine sa ?_; refine so ?_; refine sq ?_; refine zs3 ?_; refine sm ?_; refine sv (PV.lenSl rfl) ?_; refine sm ?_; refine so ?_; refine T.block ?_; refine T.rounds 2 ?_; refine zs3 ?_; refine sv (PV.lss rfl rfl) ?_; refine so ?_; refine sq ?_; refine T.condT rfl rfl ?_; refine T.skip ?_; refine sq ?_; refine T.block ?_; refine zs3 ?_; refine sv (PV.indexAddr rfl rfl (by omega)) ?_; refine sv (PV.loadSubAll rfl (by assumption) (by exact rfl)) ?_; refine sy fun b6 => ?_; refine T.storeA Wanted.none rfl rfl zq8 (by exact rfl) zq14 zq13 ?_; refine zs1 ?_; refine sm ?_; refine sf ?_; refine sl ?_; refine sv (PV.geq rfl rfl) ?_; refine sm ?_; refine T.setT (d := 17) rfl (by omega) ?_; refine gm ?_; refine gf ?_; refine gl ?_; refine gv (PV.leq rfl rfl) ?_; refine sT ?_; refine so ?_; refine sd rfl (by omega) ?_; refine T.skip ?_; refine T.blkEnd ?_
      refine sr ?_; refine sv (PV.add rfl rfl (by omega)) ?_; refine sm ?_; refine so ?_; refine T.again ?_; refine zs3 ?_; refine sv (PV.lss rfl rfl) ?_; refine so ?_; refine sq ?_; refine T.condF rfl rfl ?_; refine T.exit rfl ?_; refine zs3 ?_; refine sa ?_; refine so ?_
      exact T.retF (Lv.fin (RV.tmp rfl rfl) rfl)
end Go.Proofs.YtpjdhokpfccahaaGreatDoor
namespace Go.Proofs.YtpjdhokpfccahaaGreatDoor
open Go.RowKit

theorem band_pow (a b : Nat) : 2 ^ a &&& 2 ^ b = if a = b then 2 ^ a else 0 := by
  apply Nat.eq_of_testBit_eq
  intro i
  rw [Nat.testBit_and, Nat.testBit_two_pow, Nat.testBit_two_pow]
  split
  · rename_i h; subst h; rw [Nat.testBit_two_pow]; simp
  · rename_i h
    rw [Nat.zero_testBit]
    by_cases h1 : a = i
    · subst h1
      simp; omega
    · simp [h1]
theorem band_lst {j n : Nat} (hj : j ≤ 60) (hn : n ≤ 60) : bits .and .u64 (lstN j : Int) (lstN n : Int) = ((if j = n then lstN n else 0 : Nat) : Int) := by
  rw [band_nat (k := .u64) (lst_lt hj) (lst_lt hn)]
  congr 1
  unfold lstN
  by_cases h1 : j = 0
  · subst h1
    by_cases h2 : n = 0
    · subst h2; rfl
    · rw [if_pos rfl, if_neg h2, Nat.zero_and, if_neg (by omega)]
  · rw [if_neg h1]
    by_cases h2 : n = 0
    · subst h2; rw [if_pos rfl, Nat.and_zero, if_neg h1]
    · rw [if_neg h2, band_pow]
      by_cases h3 : j = n
      · subst h3; simp
      · rw [if_neg (by omega), if_neg h3]
theorem lst_zero (j : Nat) : lstN j = 0 ↔ j = 0 := by
  unfold lstN
  split
  · rename_i h; simp [h]
  · rename_i h
    have := Nat.two_pow_pos (j - 1)
    omega
/-- the variants of a code point: those leaves fit it -/
def IsVar (ok : Nat → Nat → Bool) (H : Hp) (u : Value) (c : Nat) : Prop :=
  ∃ vs : List Int, SlR H 1 u vs.length (vs.map fun n => .int .i32 n) ∧ vs.length ≤ 10 ∧ (∀ v ∈ vs, -1000 ≤ v ∧ v ≤ 1114111) ∧ ∀ w : Nat, sc w → ((w : Int) ∈ vs ↔ ok w c = true)
theorem nx_bit (n j i : Nat) : (nxN n j).testBit i = decide (j < n ∧ i = j) := by
  unfold nxN
  split
  · rename_i h
    rw [Nat.testBit_two_pow, Bool.eq_iff_iff]
    simp; omega
  · rename_i h
    rw [Nat.zero_testBit, Bool.eq_iff_iff]
    simp; omega
def bitN (b : Bool) (j : Nat) : Nat := if b = true then 2 ^ j else 0
theorem bit_lt {b : Bool} {j : Nat} (h : j ≤ 60) : bitN b j < 2 ^ 64 := by
  unfold bitN
  split
  · exact pow_lt (by omega)
  · decide
theorem bit_or (b : Bool) (j : Nat) : bitN b j ||| 2 ^ j = bitN true j := by
  unfold bitN
  cases b
  · simp
  · simp
theorem slr_at {H : Hp} {b off n cap : Nat} {xs : List Value} {i : Nat} {v : Value} (h : SlR H 1 (.slice (some ⟨b, off, none⟩) n cap) n xs) (hx : xs[i]? = some v) (hi : i < n) : SubC H b (off + i * 1) [v] := by
  obtain ⟨b', off', cap', e, hs⟩ := SlR.elem (i := i) (vs := [v]) h hi (by
    obtain ⟨q1, q2⟩ := List.getElem?_eq_some_iff.1 hx
    rw [Nat.mul_one, List.drop_eq_getElem_cons q1, q2]; rfl)
  injection e with e
  injection e with e
  injection e with e1 e2
  subst e1 e2
  exact hs
structure MaG where
  j : Nat
  H : Hp
structure MiG where
  i : Nat
  b : Bool
set_option maxHeartbeats 8000000 in
theorem rxMatch_fn (e : Value) (ws : List Nat) (s : ByteArray) (vf : FuncId) [hE : Ent Tryz.prog vf] (ok : Nat → Nat → Bool) (H : Hp) (he : LitR H e ws) (hws : ∀ w ∈ ws, sc w) (hl : ws.length ≤ 60) (hs : VvS s)
    (hvar : ∀ (c : Nat) (H' : Hp), sc c → Fn Tryz.prog vf #[.int .i32 (c : Int)] H' (fun u H'' => IsVar ok H'' u c)) :
    Fn Tryz.prog 121 #[e, .string s, .func (.func vf) #[] #[]] H (fun u _ => u = .bool (mt ok ws (scs s.data.toList))) := by
  obtain ⟨hs1, hs2⟩ := hs
  have hva := validate_rx e ws H he hws hl
  have hval := validP_fn s H (by omega)
  rw [hs2] at hval
  have hof := of_fn e ws H he hl
  rw [validS_ub] at hs2
  obtain ⟨q1, q2⟩ := enc_scs hs2
  obtain ⟨vs, hvs⟩ : ∃ vs, scs s.data.toList = vs := ⟨_, rfl⟩
  rw [hvs] at q1 q2 ⊢
  have hsz : s.size = ofs vs := by rw [← size_list, ← q1]; rfl
  have hdec : ∀ j v, vs[j]? = some v → ofs (vs.take j) < s.size ∧ Utf8.decode s (ofs (vs.take j)) = (v, (encB v).length) ∧ ofs (vs.take (j + 1)) = ofs (vs.take j) + (encB v).length := fun j v hv => by
    have hj := (List.getElem?_eq_some_iff.1 hv).1
    have e1 : vs = vs.take j ++ v :: vs.drop (j + 1) := by
      rw [← (List.getElem?_eq_some_iff.1 hv).2, ← List.drop_eq_getElem_cons hj, List.take_append_drop]
    have hb := encB_len v
    refine ⟨?_, ?_, ?_⟩
    · rw [hsz]
      conv => rhs; rw [e1]
      rw [ofs_app, show v :: vs.drop (j + 1) = [v] ++ vs.drop (j + 1) from rfl, ofs_app, ofs_one]
      omega
    · have e2 : encL vs = encL (vs.take j) ++ (encB v ++ encL (vs.drop (j + 1))) := by
        conv => lhs; rw [e1]
        unfold encL; rw [List.flatMap_append, List.flatMap_cons]
      rw [decode_B, ← q1, e2]
      unfold ofs
      rw [List.drop_left, decB_enc (q2 v (List.mem_of_getElem? hv))]
    · rw [List.take_add_one, hv, Option.toList_some, ofs_app, ofs_one]
  obtain ⟨c0, c1, c2, c3, c4, rfl⟩ : ∃ c0 c1 c2 c3 c4, e = .agg #[c0, c1, c2, c3, c4] := by
    cases he with
    | one h => exact ⟨_, _, _, _, _, rfl⟩
    | cat c1 c2 c3 c4 => exact ⟨_, _, _, _, _, rfl⟩
  refine Fn.of_T (vs := [.agg #[c0, c1, c2, c3, c4], .string s, .func (.func vf) #[] #[]]) Tryz.func121 rfl rfl fun _ => ?_; refine zs3 ?_; (refine T.box Wanted.none rfl rfl zq15 ?_; intro b3); refine sa ?_; refine so ?_; refine sq ?_; refine zs3 ?_; refine sv (PV.loadAll rfl zq0 (by exact rfl)) ?_; refine T.callV Wanted.none rfl rfl (hva) ?_; refine sv (PV.neq rfl rfl) ?_; refine sm ?_; refine gm ?_; refine T.callV (Wanted.guard rfl rfl rfl) rfl rfl (hval) ?_; refine gv (PV.not rfl) ?_; refine sF ?_; refine so ?_; refine T.condF rfl rfl ?_; refine T.skip ?_; refine zs3 ?_; refine sv (PV.loadAll rfl zq0 (by exact rfl)) ?_; refine T.call Wanted.none rfl rfl hof ?_
  rintro _ H1 hle1 ⟨bt, ks, vL, vF, rfl, htab, hlks⟩
  refine sa ?_; refine zs1 ?_; refine sa ?_; refine sa ?_; refine so ?_; refine sq ?_; refine zs3 ?_; refine sm ?_; (refine T.rangeStr Wanted.none rfl rfl ?_; intro b28); refine so ?_; refine T.block ?_
  have hn : ks.length = ws.length := hlks.1
  refine T.loopK [(28, Value.pointer (some { block := b28, off := 0 })), (7, Value.pointer (some { block := bt, off := 0 })), (2, Value.func (Fn.func vf) #[] #[])] zq8 (γ := MaG) (fun g => g.j ≤ vs.length ∧ g.j ≤ ws.length ∧ H1.le g.H ∧ mt ok (ws.drop g.j) (vs.drop g.j) = mt ok ws vs) (fun g => [(8, .int .u64 (lstN g.j : Int)), (9, .bool (decide (g.j = 0)))]) (fun g => (b28, .stringIter s (ofs (vs.take g.j))) :: _) (fun g => g.H) (fun g => vs.length - g.j) ⟨0, H1⟩ ⟨Nat.zero_le _, Nat.zero_le _, Hp.le.refl _, rfl⟩ zq8 (Sel.refl _) rfl ?_
  rintro ⟨j, Hk⟩ ⟨g1, g2, g3, g4⟩
  dsimp only at g1 g2 g3 g4 ⊢
  have htk := htab.mono g3
  by_cases hj : j < vs.length
  · obtain ⟨v, hv⟩ : ∃ v, vs[j]? = some v := ⟨_, List.getElem?_eq_getElem hj⟩
    obtain ⟨d1, d2, d3⟩ := hdec j v hv
    have hsv := q2 v (List.mem_of_getElem? hv)
    have hnx := nextF_fn bt ks vL vF j Hk htk (by omega) (by omega)
    rw [hn] at hnx
    refine zs3 ?_; refine T.nextStr zq22 rfl rfl (by assumption) (by assumption) zq14 ?_; refine sv (PV.extract rfl rfl) ?_; refine so ?_; refine sq ?_; refine T.condT rfl rfl ?_; refine T.skip ?_; refine T.block ?_; refine zs3 ?_; refine sv (PV.extract rfl rfl) ?_; refine sa ?_; refine zs1 ?_; refine sm ?_; refine sm ?_; refine sm ?_; refine T.callV Wanted.none rfl rfl (hnx) ?_; refine sa ?_; refine zs1 ?_; refine sa ?_; refine sa ?_; refine so ?_; refine sq ?_; refine zs3 ?_; refine sm ?_; refine sm ?_; refine T.callF (f := vf) (cap := []) Wanted.none rfl rfl rfl (hvar v Hk hsv) ?_
    rintro u H2 hle2 ⟨us, hus, hul, hub, huw⟩
    obtain ⟨adu, cu, rfl⟩ := hus.len
    have ht2 := htk.mono hle2
    refine sv (PV.lenSl rfl) ?_; refine sm ?_; refine so ?_; refine T.block ?_
    have hxs := nxN_lt (n := ws.length) (j := j) (by omega)
    refine T.loopK [(39, Value.int IntKind.i64 (↑us.length : Int)), (38, Value.slice adu us.length cu), (9, Value.bool false), (12, Value.int IntKind.u64 (↑(nxN ws.length j) : Int)), (28, Value.pointer (some { block := b28, off := 0 })), (7, Value.pointer (some { block := bt, off := 0 })), (2, Value.func (Fn.func vf) #[] #[])] zq8 (γ := MiG) (fun g => g.i ≤ us.length ∧ (g.b = true ↔ ∃ w, ws[j]? = some w ∧ ∃ i', i' < g.i ∧ us[i']? = some (w : Int))) (fun g => [(40, .int .i64 (g.i : Int)), (8, .int .u64 (bitN g.b j : Int))]) (fun _ => _) (fun _ => H2) (fun g => us.length - g.i) ⟨0, false⟩ ⟨Nat.zero_le _, by simp⟩ zq8 (Sel.refl _) rfl ?_
    rintro ⟨i, b⟩ ⟨k1, k2⟩
    dsimp only at k1 k2 ⊢
    by_cases hi : i < us.length
    · obtain ⟨bu, hub2, offu, rfl⟩ : ∃ bu : Nat, ∃ _ : True, ∃ offu : Nat, adu = some ⟨bu, offu, none⟩ := by
        obtain ⟨bu, offu, cap', e, _⟩ := SlR.elem (i := i) (vs := [.int .i32 us[i]]) hus hi (by
          rw [Nat.mul_one, List.drop_eq_getElem_cons (by simpa using hi)]; simp)
        injection e with e
        exact ⟨bu, trivial, offu, e⟩
      have hsu := slr_at (i := i) (v := .int .i32 us[i]) hus (by simp [hi]) hi
      have huR := hub us[i] (List.getElem_mem hi)
      obtain ⟨adL, cL, hvL⟩ := ht2.l.len
      have hLl := ht2.l
      rw [hvL] at hLl
      have htc := ht2.c
      rw [hvL] at htc
      refine zs3 ?_; refine sv (PV.lss rfl rfl) ?_; refine so ?_; refine sq ?_; refine sC rfl (by omega) ?_; refine T.skip ?_; refine sq ?_; refine T.block ?_; refine zs3 ?_; refine sv (PV.indexAddr rfl rfl (by omega)) ?_; refine sv (PV.loadSub0 rfl (by assumption)) ?_; refine sa ?_; refine zs1 ?_; refine sm ?_; refine sv (PV.nilCheck rfl) ?_; refine sf ?_; refine sl ?_; refine sv (PV.lenSl rfl) ?_; refine sm ?_; refine so ?_; refine T.block ?_; refine T.loopK [(48, Value.int IntKind.i64 (↑ks.length : Int)), (47, Value.slice adL ks.length cL), (14, Value.int IntKind.i32 us[i]), (40, Value.int IntKind.i64 (↑i : Int)), (39, Value.int IntKind.i64 (↑us.length : Int)), (38, Value.slice (some { block := bu, off := offu }) us.length cu), (9, Value.bool false), (12, Value.int IntKind.u64 (↑(nxN ws.length j) : Int)), (28, Value.pointer (some { block := b28, off := 0 })), (7, Value.pointer (some { block := bt, off := 0 })), (2, Value.func (Fn.func vf) #[] #[])] zq8 (γ := MiG) (fun g => g.i ≤ ks.length ∧ (g.b = true ↔ (b = true ∨ (j < g.i ∧ ∃ w, ws[j]? = some w ∧ us[i] = (w : Int))))) (fun g => [(49, .int .i64 (g.i : Int)), (8, .int .u64 (bitN g.b j : Int))]) (fun _ => _) (fun _ => H2) (fun g => ks.length - g.i) ⟨0, b⟩ ⟨Nat.zero_le _, by simp⟩ zq8 (Sel.refl _) rfl ?_
      rintro ⟨m, c⟩ ⟨m1, m2⟩
      dsimp only at m1 m2 ⊢
      by_cases hm : m < ks.length
      · obtain ⟨kk, hkk⟩ : ∃ kk, ks[m]? = some kk := ⟨_, List.getElem?_eq_getElem hm⟩
        obtain ⟨w, hw⟩ : ∃ w, ws[m]? = some w := ⟨_, List.getElem?_eq_getElem (by omega)⟩
        have hrg := ((hlks.2 m kk w hkk hw).mono g3).mono hle2
        have hct := rxContains_fn kk w us[i] H2 hrg huR
        obtain ⟨bL, hbL, offL, rfl⟩ : ∃ bL : Nat, ∃ _ : True, ∃ offL : Nat, adL = some ⟨bL, offL, none⟩ := by
          obtain ⟨bu, offu, cap', e, _⟩ := SlR.elem (i := m) (vs := [rg1 kk]) hLl hm (by
            rw [Nat.mul_one, List.drop_eq_getElem_cons (by rw [lvsV_len]; exact hm)]; simp [lvsV, (List.getElem?_eq_some_iff.1 hkk).2])
          injection e with e
          exact ⟨bu, trivial, offu, e⟩
        have hsL := slr_at (i := m) (v := rg1 kk) hLl (by simp [lvsV, hkk]) hm
        have hsh := shr_u64 (i := m) hxs
        have hbt := shr_bit (i := m) hxs
        rw [nx_bit] at hbt
        by_cases hjm : j < ws.length ∧ m = j
        · rw [if_pos (by simpa using hjm)] at hbt
          obtain ⟨hjn, rfl⟩ := hjm
          by_cases hcw : us[i] = (w : Int)
          · rw [decide_eq_true hcw] at hct
            have hs1 := shl_one (k := m) (by omega)
            have hor := or_u64 (a := bitN c m) (b := 2 ^ m) (bit_lt (by omega)) (pow_lt (by omega))
            rw [bit_or] at hor
            refine zs3 ?_; refine sv (PV.lss rfl rfl) ?_; refine so ?_; refine sq ?_; refine sC rfl (by omega) ?_; refine T.skip ?_; refine sq ?_; refine T.block ?_; refine zs3 ?_; refine sm ?_; refine sv (PV.indexAddr rfl rfl (by omega)) ?_; refine sv (PV.loadSub0 rfl (by assumption)) ?_; refine sa ?_; refine sa ?_; refine zs1 ?_; refine sm ?_; refine sm ?_; refine sv (PV.shrR rfl rfl (by assumption) (by omega)) ?_; refine sv (PV.bandR rfl rfl (by assumption)) ?_; refine sv (PV.eql rfl rfl) ?_; refine sm ?_; refine gm ?_; refine gm ?_; refine T.callV (Wanted.guard rfl rfl rfl) rfl rfl (hct) ?_; refine sT ?_; refine so ?_; refine T.condT rfl rfl ?_; refine sr ?_; refine sm ?_; refine sm ?_; refine sv (PV.shlR rfl rfl (by assumption) (by omega)) ?_; refine sv (PV.borR rfl rfl (by assumption)) ?_; refine sa ?_; refine so ?_; refine T.blkEnd ?_; refine sr ?_; refine sv (PV.add rfl rfl (by omega)) ?_; refine sm ?_; refine so ?_
            exact T.nextP ⟨m + 1, true⟩ ⟨by dsimp only; omega, by simp only [true_iff]; exact .inr ⟨by omega, w, hw, hcw⟩⟩ (by dsimp only; omega) zq8 (by repeat (first | exact Sel.refl _ | exact Sel.nil | (refine Sel.cons zq1 ?_) | (refine Sel.app zq1 ?_) | exact Sel.one zq1)) rfl
          · rw [decide_eq_false hcw] at hct
            refine zs3 ?_; refine sv (PV.lss rfl rfl) ?_; refine so ?_; refine sq ?_; refine sC rfl (by omega) ?_; refine T.skip ?_; refine sq ?_; refine T.block ?_; refine zs3 ?_; refine sm ?_; refine sv (PV.indexAddr rfl rfl (by omega)) ?_; refine sv (PV.loadSub0 rfl (by assumption)) ?_; refine sa ?_; refine sa ?_; refine zs1 ?_; refine sm ?_; refine sm ?_; refine sv (PV.shrR rfl rfl (by assumption) (by omega)) ?_; refine sv (PV.bandR rfl rfl (by assumption)) ?_; refine sv (PV.eql rfl rfl) ?_; refine sm ?_; refine gm ?_; refine gm ?_; refine T.callV (Wanted.guard rfl rfl rfl) rfl rfl (hct) ?_; refine sT ?_; refine so ?_; refine T.condF rfl rfl ?_; refine T.skip ?_; refine T.blkEnd ?_; refine sr ?_; refine sv (PV.add rfl rfl (by omega)) ?_; refine sm ?_; refine so ?_
            refine T.nextP ⟨m + 1, c⟩ ⟨by dsimp only; omega, ?_⟩ (by dsimp only; omega) zq8 (by repeat (first | exact Sel.refl _ | exact Sel.nil | (refine Sel.cons zq1 ?_) | (refine Sel.app zq1 ?_) | exact Sel.one zq1)) rfl
            dsimp only
            rw [m2]
            constructor
            · rintro (h | ⟨h, _⟩)
              · exact .inl h
              · omega
            · rintro (h | ⟨h, w', hw', h'⟩)
              · exact .inl h
              · rw [hw] at hw'; cases hw'; exact absurd h' hcw
        · rw [if_neg (by simpa using hjm)] at hbt
          refine zs3 ?_; refine sv (PV.lss rfl rfl) ?_; refine so ?_; refine sq ?_; refine sC rfl (by omega) ?_; refine T.skip ?_; refine sq ?_; refine T.block ?_; refine zs3 ?_; refine sm ?_; refine sv (PV.indexAddr rfl rfl (by omega)) ?_; refine sv (PV.loadSub0 rfl (by assumption)) ?_; refine sa ?_; refine sa ?_; refine zs1 ?_; refine sm ?_; refine sm ?_; refine sv (PV.shrR rfl rfl (by assumption) (by omega)) ?_; refine sv (PV.bandR rfl rfl (by assumption)) ?_; refine sv (PV.eql rfl rfl) ?_; refine sm ?_; refine sp ?_; refine sp ?_; refine sp ?_; refine sF ?_; refine so ?_; refine T.condF rfl rfl ?_; refine T.skip ?_; refine T.blkEnd ?_; refine sr ?_; refine sv (PV.add rfl rfl (by omega)) ?_; refine sm ?_; refine so ?_
          refine T.nextP ⟨m + 1, c⟩ ⟨by dsimp only; omega, ?_⟩ (by dsimp only; omega) zq8 (by repeat (first | exact Sel.refl _ | exact Sel.nil | (refine Sel.cons zq1 ?_) | (refine Sel.app zq1 ?_) | exact Sel.one zq1)) rfl
          dsimp only
          rw [m2]
          constructor
          · rintro (h | ⟨h, h'⟩)
            · exact .inl h
            · exact .inr ⟨by omega, h'⟩
          · rintro (h | ⟨h, w', hw', h'⟩)
            · exact .inl h
            · have hjw := (List.getElem?_eq_some_iff.1 hw').1
              exact .inr ⟨by omega, w', hw', h'⟩
      · obtain rfl : m = ks.length := by omega
        refine zs3 ?_; refine sv (PV.lss rfl rfl) ?_; refine so ?_; refine sq ?_; refine sd rfl (by omega) ?_; refine T.exit rfl ?_; refine T.blkEnd ?_; refine sr ?_; refine sv (PV.add rfl rfl (by omega)) ?_; refine sm ?_; refine so ?_
        refine T.nextP ⟨i + 1, c⟩ ⟨by dsimp only; omega, ?_⟩ (by dsimp only; omega) zq8 (by repeat (first | exact Sel.refl _ | exact Sel.nil | (refine Sel.cons zq1 ?_) | (refine Sel.app zq1 ?_) | exact Sel.one zq1)) rfl
        dsimp only
        rw [m2, k2]
        constructor
        · rintro (⟨w, hw, i', hi', hu⟩ | ⟨h, w, hw, hu⟩)
          · exact ⟨w, hw, i', by omega, hu⟩
          · exact ⟨w, hw, i, by omega, by rw [List.getElem?_eq_getElem hi, hu]⟩
        · rintro ⟨w, hw, i', hi', hu⟩
          by_cases he : i' = i
          · subst he
            rw [List.getElem?_eq_getElem hi] at hu
            have hjw := (List.getElem?_eq_some_iff.1 hw).1
            exact .inr ⟨by omega, w, hw, Option.some.inj hu⟩
          · exact .inl ⟨w, hw, i', by omega, hu⟩
    · obtain rfl : i = us.length := by omega
      have hkey : b = true ↔ ∃ w, ws[j]? = some w ∧ ok w v = true := by
        rw [k2]
        constructor
        · rintro ⟨w, hw, i', _, hu⟩
          exact ⟨w, hw, (huw w (hws w (List.mem_of_getElem? hw))).1 (List.mem_of_getElem? hu)⟩
        · rintro ⟨w, hw, ho⟩
          obtain ⟨i', hi'⟩ := List.getElem?_of_mem ((huw w (hws w (List.mem_of_getElem? hw))).2 ho)
          exact ⟨w, hw, i', (List.getElem?_eq_some_iff.1 hi').1, hi'⟩
      cases b
      · refine zs3 ?_; refine sv (PV.lss rfl rfl) ?_; refine so ?_; refine sq ?_; refine sd rfl (by omega) ?_; refine T.exit rfl ?_; refine zs3 ?_; refine sm ?_; refine sv (PV.eql rfl rfl) ?_; refine so ?_; refine T.condT rfl rfl ?_; refine zs3 ?_; refine sa ?_; refine so ?_
        refine T.retF (Lv.fin (RV.tmp rfl rfl) ?_)
        rw [← g4]
        congr 1
        by_cases hjn : j < ws.length
        · obtain ⟨w, hw⟩ : ∃ w, ws[j]? = some w := ⟨_, List.getElem?_eq_getElem hjn⟩
          rw [mt_drop hw hv]
          have : ok w v = false := by
            rw [Bool.eq_false_iff]
            intro ho
            have := hkey.2 ⟨w, hw, ho⟩
            cases this
          rw [this]; rfl
        · rw [List.drop_of_length_le (l := ws) (by omega), mt_end]
          symm
          rw [decide_eq_false_iff_not]
          intro h0
          have := List.drop_eq_nil_iff.1 h0
          omega
      · obtain ⟨w, hw, ho⟩ := hkey.1 rfl
        have hjn := (List.getElem?_eq_some_iff.1 hw).1
        have hz : bitN true j = lstN (j + 1) := by unfold bitN lstN; simp
        have hz0 : (lstN (j + 1) : Int) ≠ 0 := by
          have := lst_zero (j + 1)
          omega
        have hd1 : decide (j + 1 = 0) = false := decide_eq_false (by omega)
        rw [hz]
        refine zs3 ?_; refine sv (PV.lss rfl rfl) ?_; refine so ?_; refine sq ?_; refine sd rfl (by omega) ?_; refine T.exit rfl ?_; refine zs3 ?_; refine sm ?_; refine sv (PV.eql rfl rfl) ?_; refine so ?_; refine sd rfl (by omega) ?_; refine T.skip ?_; refine T.blkEnd ?_
        rw [← d3]
        refine T.nextP ⟨j + 1, H2⟩ ⟨by dsimp only; omega, by dsimp only; omega, g3.trans hle2, ?_⟩ (by dsimp only; omega) ?_ (by repeat (first | exact Sel.refl _ | exact Sel.nil | (refine Sel.cons zq1 ?_) | (refine Sel.app zq1 ?_) | exact Sel.one zq1)) rfl
        · dsimp only
          rw [← g4, mt_drop hw hv, ho, Bool.true_and]
        · dsimp only
          rw [hd1]
          exact zq8
  · obtain rfl : j = vs.length := by omega
    have hp : s.size ≤ ofs (vs.take vs.length) := by rw [List.take_of_length_le (Nat.le_refl _)]; omega
    have hres : mt ok ws vs = decide (vs.length = ws.length) := by
      rw [← g4, List.drop_of_length_le (l := vs) (Nat.le_refl _), mt_nil, Bool.eq_iff_iff]
      simp [List.drop_eq_nil_iff]
      omega
    rw [hres]
    have htc := htk.c
    have hand := band_lst (j := vs.length) (n := ks.length) (by omega) (by omega)
    by_cases h0 : vs.length = 0
    · have hd : decide (vs.length = 0) = true := decide_eq_true h0
      by_cases h1 : ks.length = 0
      · have hd1 : decide (ks.length = 0) = true := decide_eq_true h1
        rw [hd] 
        rw [hd1] at htc
        refine zs3 ?_; refine T.nextStrEnd zq22 rfl rfl zq2 (by omega) ?_; refine sv (PV.extract rfl rfl) ?_; refine so ?_; refine sq ?_; refine T.condF rfl rfl ?_; refine T.exit rfl ?_; refine zs3 ?_; refine sm ?_; refine sm ?_; refine gm ?_; refine gv (PV.nilCheck rfl) ?_; refine gf ?_; refine gl ?_; refine sT ?_; refine sm ?_; refine sp ?_; refine sp ?_; refine sp ?_; refine sp ?_; refine sp ?_; refine sp ?_; refine sp ?_; refine sT ?_; refine sa ?_; refine so ?_
        exact T.retF (Lv.fin (RV.tmp rfl rfl) (by rw [decide_eq_true (by omega)]))
      · have hd1 : decide (ks.length = 0) = false := decide_eq_false h1
        rw [hd]
        rw [hd1] at htc
        rw [if_neg (by omega)] at hand
        refine zs3 ?_; refine T.nextStrEnd zq22 rfl rfl zq2 (by omega) ?_; refine sv (PV.extract rfl rfl) ?_; refine so ?_; refine sq ?_; refine T.condF rfl rfl ?_; refine T.exit rfl ?_; refine zs3 ?_; refine sm ?_; refine sm ?_; refine gm ?_; refine gv (PV.nilCheck rfl) ?_; refine gf ?_; refine gl ?_; refine sT ?_; refine sm ?_; refine gm ?_; refine gm ?_; refine gv (PV.nilCheck rfl) ?_; refine gf ?_; refine gl ?_; refine gv (PV.bandR rfl rfl (by assumption)) ?_; refine gv (PV.neq rfl rfl) ?_; refine sF ?_; refine sa ?_; refine so ?_
        exact T.retF (Lv.fin (RV.tmp rfl rfl) (by rw [decide_eq_false (by omega : ¬ vs.length = ws.length)]; rfl))
    · have hd : decide (vs.length = 0) = false := decide_eq_false h0
      rw [hd]
      by_cases h1 : vs.length = ks.length
      · rw [if_pos h1] at hand
        have hz0 : (lstN ks.length : Int) ≠ 0 := by
          have := lst_zero ks.length
          omega
        refine zs3 ?_; refine T.nextStrEnd zq22 rfl rfl zq2 (by omega) ?_; refine sv (PV.extract rfl rfl) ?_; refine so ?_; refine sq ?_; refine T.condF rfl rfl ?_; refine T.exit rfl ?_; refine zs3 ?_; refine sm ?_; refine sm ?_; refine sp ?_; refine sp ?_; refine sp ?_; refine sp ?_; refine sF ?_; refine sm ?_; refine gm ?_; refine gm ?_; refine gv (PV.nilCheck rfl) ?_; refine gf ?_; refine gl ?_; refine gv (PV.bandR rfl rfl (by assumption)) ?_; refine gv (PV.neq rfl rfl) ?_; refine sF ?_; refine sa ?_; refine so ?_
        exact T.retF (Lv.fin (RV.tmp rfl rfl) (by rw [decide_eq_true (by omega : vs.length = ws.length), decide_eq_true hz0]))
      · rw [if_neg h1] at hand
        refine zs3 ?_; refine T.nextStrEnd zq22 rfl rfl zq2 (by omega) ?_; refine sv (PV.extract rfl rfl) ?_; refine so ?_; refine sq ?_; refine T.condF rfl rfl ?_; refine T.exit rfl ?_; refine zs3 ?_; refine sm ?_; refine sm ?_; refine sp ?_; refine sp ?_; refine sp ?_; refine sp ?_; refine sF ?_; refine sm ?_; refine gm ?_; refine gm ?_; refine gv (PV.nilCheck rfl) ?_; refine gf ?_; refine gl ?_; refine gv (PV.bandR rfl rfl (by assumption)) ?_; refine gv (PV.neq rfl rfl) ?_; refine sF ?_; refine sa ?_; refine so ?_
        exact T.retF (Lv.fin (RV.tmp rfl rfl) (by rw [decide_eq_false (by omega : ¬ vs.length = ws.length)]; rfl))
end Go.Proofs.YtpjdhokpfccahaaGreatDoor
