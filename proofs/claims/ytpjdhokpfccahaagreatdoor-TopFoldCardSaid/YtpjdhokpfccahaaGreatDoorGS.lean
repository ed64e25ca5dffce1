/- expressions that stand for a text, read: a character, an atom, a repetition that is none.
   expressions that stand for a text, read: a sequence. -/
import Derived.Test.YtpjdhokpfccahaaGreatDoorGR
import Derived.Test.YtpjdhokpfccahaaGreatDoorGH
namespace Go.Proofs.YtpjdhokpfccahaaGreatDoor
open Go.RowKit

theorem At.app {s : ByteArray} {pre : List Nat} : ∀ {q rest : List Nat}, At s pre (q ++ rest) → At s (pre ++ q) rest
  | [], rest, h => by rw [List.append_nil]; exact h
  | r :: q, rest, h => by
    have := At.app (q := q) h.step
    rwa [List.append_assoc] at this
set_option maxHeartbeats 1000000 in
theorem character_fnS (b : Nat) (s : ByteArray) (pre rest : List Nat) (w : Nat) (H : Hp) (hT : U8T H) (h : At s pre (qR w ++ rest)) (hw : sc w) :
    FnS Tryz.prog 149 #[.pointer (some ⟨b, 0, none⟩), .string spB] H [psB b s (ofs pre)] (.tuple #[.int .i32 (w : Int), .bool true]) [psB b s (ofs (pre ++ qR w))] := by
  have hle := h.sz
  have hsz := h.size
  by_cases hs : spc w = true
  · have hq : qR w = [92, w] := by unfold qR; rw [if_pos hs]
    rw [hq] at h ⊢
    have n1 : FnS Tryz.prog 32 #[.pointer (some ⟨b, 0, none⟩)] H [psB b s (ofs pre)] (.int .i32 92) [psB b s (ofs pre)] := next_fnS b s pre _ H hT h
    have h2 : At s (pre ++ [92]) (w :: rest) := h.step
    have n2 : FnS Tryz.prog 32 #[.pointer (some ⟨b, 0, none⟩)] H [psB b s (ofs (pre ++ [92]))] (.int .i32 (w : Int)) [psB b s (ofs (pre ++ [92]))] := next_fnS b s (pre ++ [92]) _ H hT h2
    have k2 := skip_fnS b s (pre ++ [92]) rest w H hT h2
    have e1 : ((ofs pre : Nat) : Int) + 1 = ((ofs (pre ++ [92]) : Nat) : Int) := by
      rw [ofs_app, ofs_one, show (encB 92).length = 1 by decide]; omega
    have hcr := containsRune_fn w H hw
    rw [hs] at hcr
    rw [List.append_assoc] at k2
    have hlt : ofs pre ≤ 20000 := by omega
    refine FnW.of_T (vs := [.pointer (some ⟨b, 0, none⟩), .string spB]) Tryz.func149 rfl rfl fun _ => ?_; refine zs3 ?_; refine sa ?_; refine sa ?_; refine zs1 ?_; refine sm ?_; (refine T.callWV Wanted.none rfl rfl n1 zq1 ?_); refine sa ?_; refine so ?_; refine sq ?_; refine zs3 ?_; refine sm ?_; refine sv (PV.eql rfl rfl) ?_; refine so ?_; refine T.condT rfl rfl ?_; refine zs3 ?_; refine sm ?_; refine sv (PV.nilCheck rfl) ?_; refine sf ?_; refine sl ?_; refine sv (PV.add rfl rfl (by omega)) ?_; refine sv (PV.nilCheck rfl) ?_; refine sf ?_; refine T.store1 Wanted.none rfl rfl rfl zq14 zq13 ?_; refine so ?_
    rw [e1]
    refine zs3 ?_; refine sm ?_; (refine T.callWV Wanted.none rfl rfl n2 zq1 ?_); refine sa ?_; refine zs1 ?_; refine sm ?_; refine sv (PV.lss rfl rfl) ?_; refine sm ?_; refine gm ?_; refine gm ?_; refine T.callV (Wanted.guard rfl rfl rfl) rfl rfl (hcr) ?_; refine gv (PV.not rfl) ?_; refine sF ?_; refine so ?_; refine T.condF rfl rfl ?_; refine T.skip ?_; refine zs3 ?_; refine sm ?_; (refine T.callWV Wanted.none rfl rfl k2 zq1 ?_); refine zs1 ?_; refine sm ?_; refine sa ?_; refine sa ?_; refine so ?_
    exact T.retW (Lv.finW _ (List.Sublist.refl _) (RV.tmp2 rfl rfl rfl) ⟨rfl, rfl, rfl⟩)
  · have hq : qR w = [w] := by unfold qR; rw [if_neg hs]
    rw [hq] at h ⊢
    have n1 : FnS Tryz.prog 32 #[.pointer (some ⟨b, 0, none⟩)] H [psB b s (ofs pre)] (.int .i32 (w : Int)) [psB b s (ofs pre)] := next_fnS b s pre _ H hT h
    have k2 := skip_fnS b s pre rest w H hT h
    have hne : w ≠ 92 := fun e => hs (by rw [e]; rfl)
    refine FnW.of_T (vs := [.pointer (some ⟨b, 0, none⟩), .string spB]) Tryz.func149 rfl rfl fun _ => ?_; refine zs3 ?_; refine sa ?_; refine sa ?_; refine zs1 ?_; refine sm ?_; (refine T.callWV Wanted.none rfl rfl n1 zq1 ?_); refine sa ?_; refine so ?_; refine sq ?_; refine zs3 ?_; refine sm ?_; refine sv (PV.eql rfl rfl) ?_; refine so ?_; refine sd rfl (by omega) ?_; refine T.skip ?_; refine zs3 ?_; refine sm ?_; (refine T.callWV Wanted.none rfl rfl k2 zq1 ?_); refine zs1 ?_; refine sm ?_; refine sa ?_; refine sa ?_; refine so ?_
    exact T.retW (Lv.finW _ (List.Sublist.refl _) (RV.tmp2 rfl rfl rfl) ⟨rfl, rfl, rfl⟩)
/-- the ranges of one code point -/
abbrev rg1 (k : Nat) : Value := .slice (some ⟨k, 0, none⟩) 1 1
def RgS (H : Hp) (k : Nat) (w : Nat) : Prop := SlR H 2 (rg1 k) 1 [.int .i32 (w : Int), .int .i32 (w : Int)]
theorem RgS.mono {H H' : Hp} {rv : Nat} {w : Nat} (h : RgS H rv w) (hl : H.le H') : RgS H' rv w := SlR.mono h hl
/-- an expression -/
abbrev rxV (op : Int) (rv kv : Value) : Value := .agg #[.int .i64 op, .int .i64 0, .int .i64 0, rv, kv]
theorem one_fn (w : Nat) (H : Hp) : Fn Tryz.prog 146 #[.int .i32 (w : Int), .int .i32 (w : Int)] H (fun u H' => ∃ rv, u = rxV 1 (rg1 rv) (.slice none 0 0) ∧ RgS H' rv w) := by
  refine Fn.of_T (vs := [.int .i32 (w : Int), .int .i32 (w : Int)]) Tryz.func146 rfl rfl fun _ => ?_; refine zs3 ?_; refine sy fun b4 => ?_; refine zs1 ?_; refine sm ?_; refine sm ?_; refine sv (PV.build rfl zq12) ?_; (refine T.buildSlice Wanted.none rfl rfl zq11 (by exact rfl) (by exact rfl) ?_; intro b8); refine sv (PV.build rfl zq12) ?_; refine T.storeA Wanted.none rfl rfl zq8 (by exact rfl) zq14 zq13 ?_; refine so ?_
  have hv : Vec 98 2 (.slice (some ⟨b8, 0, none⟩) 1 1) [(b8, .cells ([Value.int .i32 (w : Int), Value.int .i32 (w : Int)] ++ []).toArray 98 (0, 0))] 1 [.int .i32 (w : Int), .int .i32 (w : Int)] := ⟨rfl, .inr ⟨b8, 1, _, rfl, rfl, Nat.le_refl _, by decide, by simp, rfl⟩⟩
  refine T.freezeP (lv := [(b8, .cells ([Value.int .i32 (w : Int), Value.int .i32 (w : Int)] ++ []).toArray 98 (0, 0))]) hv zq1 ?_
  intro H1 hle1 hsa
  exact T.retF (Lv.fin (RV.cell rfl (by exact CV.agg rfl zq0 (by exact rfl))) ⟨_, rfl, hsa⟩)
/-- an atom begins here -/
theorem qR_hd (w : Nat) (rest : List Nat) : ∃ c : Nat, hdI (qR w ++ rest) = (c : Int) ∧ (c = 92 ∨ (c = w ∧ spc w = false)) := by
  unfold qR
  split
  · exact ⟨92, rfl, .inl rfl⟩
  · rename_i h
    exact ⟨w, rfl, .inr ⟨rfl, by simpa using h⟩⟩
theorem nsp {w : Nat} (h : spc w = false) : (w : Int) ≠ 40 ∧ (w : Int) ≠ 46 ∧ (w : Int) ≠ 91 ∧ (w : Int) ≠ 41 ∧ (w : Int) ≠ 123 ∧ (w : Int) ≠ 124 ∧ (w : Int) ≠ 42 ∧ (w : Int) ≠ 43 ∧ (w : Int) ≠ 63 ∧ (w : Int) ≠ 92 := by
  have hn : ∀ k : Nat, spc k = true → (w : Int) ≠ (k : Int) := fun k hk e => by
    have : w = k := by omega
    rw [this, hk] at h; cases h
  exact ⟨hn 40 rfl, hn 46 rfl, hn 91 rfl, hn 41 rfl, hn 123 rfl, hn 124 rfl, hn 42 rfl, hn 43 rfl, hn 63 rfl, hn 92 rfl⟩
set_option maxHeartbeats 1000000 in
theorem atom_fnW (b : Nat) (s : ByteArray) (pre rest : List Nat) (w : Nat) (H : Hp) (hT : U8T H) (h : At s pre (qR w ++ rest)) (hw : sc w) :
    FnW Tryz.prog 116 #[.pointer (some ⟨b, 0, none⟩)] H [psB b s (ofs pre)] (fun u H' l' => ∃ rv, u = .tuple #[rxV 1 (rg1 rv) (.slice none 0 0), .bool true] ∧ RgS H' rv w ∧ l' = [psB b s (ofs (pre ++ qR w))]) := by
  have n1 := next_fnS b s pre _ H hT h
  have ch := character_fnS b s pre rest w H hT h hw
  have on := one_fn w H
  obtain ⟨c, hc, hcc⟩ := qR_hd w rest
  rw [hc] at n1
  rcases hcc with rfl | ⟨rfl, hsp⟩
  · refine FnW.of_T (vs := [.pointer (some ⟨b, 0, none⟩)]) Tryz.func116 rfl rfl fun _ => ?_; refine zs3 ?_; refine sy fun b2 => ?_; refine sa ?_; refine zs1 ?_; refine sm ?_; (refine T.callWV Wanted.none rfl rfl n1 zq1 ?_); refine sa ?_; refine so ?_; refine sq ?_; refine T.block ?_; refine zs3 ?_; refine sm ?_; refine sv (PV.eql rfl rfl) ?_; refine sa ?_; refine so ?_; refine T.condF rfl rfl ?_; refine zs3 ?_; refine sm ?_; refine sv (PV.eql rfl rfl) ?_; refine sa ?_; refine so ?_; refine T.condF rfl rfl ?_; refine zs3 ?_; refine sm ?_; refine sv (PV.eql rfl rfl) ?_; refine sa ?_; refine so ?_; refine T.condF rfl rfl ?_; refine zs3 ?_; refine sm ?_; refine sv (PV.neq rfl rfl) ?_; refine sm ?_; refine sp ?_; refine sp ?_; refine sF ?_; refine sa ?_; refine so ?_; refine T.condF rfl rfl ?_; refine T.skip ?_
    refine T.blkEnd ?_; refine zs3 ?_; refine sm ?_; (refine T.callWV Wanted.none rfl rfl ch zq1 ?_); refine sm ?_; refine sv (PV.extract rfl rfl) ?_; refine sv (PV.extract rfl rfl) ?_; refine sa ?_; refine sa ?_; refine zs1 ?_; refine sm ?_; refine sm ?_; refine T.call Wanted.none rfl rfl on ?_
    rintro _ H1 hle ⟨rv, rfl, hrv⟩
    refine sm ?_; refine T.storeA Wanted.none rfl rfl zq8 (by exact rfl) zq14 zq13 ?_; refine sa ?_; refine so ?_
    exact T.retW (Lv.finW [psB b s (ofs (pre ++ qR w))] zq4 (RV.ct rfl (by exact CV.agg rfl zq0 (by exact rfl)) rfl) ⟨rv, rfl, hrv, rfl⟩)
  · have hx := nsp hsp
    have hcr := containsRune_fn c H hw
    rw [hsp] at hcr
    refine FnW.of_T (vs := [.pointer (some ⟨b, 0, none⟩)]) Tryz.func116 rfl rfl fun _ => ?_; refine zs3 ?_; refine sy fun b2 => ?_; refine sa ?_; refine zs1 ?_; refine sm ?_; (refine T.callWV Wanted.none rfl rfl n1 zq1 ?_); refine sa ?_; refine so ?_; refine sq ?_; refine T.block ?_; refine zs3 ?_; refine sm ?_; refine sv (PV.eql rfl rfl) ?_; refine sa ?_; refine so ?_; refine sd rfl (by omega) ?_; refine zs3 ?_; refine sm ?_; refine sv (PV.eql rfl rfl) ?_; refine sa ?_; refine so ?_; refine sd rfl (by omega) ?_; refine zs3 ?_; refine sm ?_; refine sv (PV.eql rfl rfl) ?_; refine sa ?_; refine so ?_; refine sd rfl (by omega) ?_; refine zs3 ?_; refine sm ?_; refine sv (PV.neq rfl rfl) ?_; refine sm ?_; refine T.setT (d := 52) rfl (by omega) ?_; refine gm ?_; refine T.callV (Wanted.guard rfl rfl rfl) rfl rfl (hcr) ?_; refine sT ?_; refine sa ?_; refine so ?_; refine T.condF rfl rfl ?_
    refine T.skip ?_; refine T.blkEnd ?_; refine zs3 ?_; refine sm ?_; (refine T.callWV Wanted.none rfl rfl ch zq1 ?_); refine sm ?_; refine sv (PV.extract rfl rfl) ?_; refine sv (PV.extract rfl rfl) ?_; refine sa ?_; refine sa ?_; refine zs1 ?_; refine sm ?_; refine sm ?_; refine T.call Wanted.none rfl rfl on ?_
    rintro _ H1 hle ⟨rv, rfl, hrv⟩
    refine sm ?_; refine T.storeA Wanted.none rfl rfl zq8 (by exact rfl) zq14 zq13 ?_; refine sa ?_; refine so ?_
    exact T.retW (Lv.finW [psB b s (ofs (pre ++ qR c))] zq4 (RV.ct rfl (by exact CV.agg rfl zq0 (by exact rfl)) rfl) ⟨rv, rfl, hrv, rfl⟩)
end Go.Proofs.YtpjdhokpfccahaaGreatDoor
namespace Go.Proofs.YtpjdhokpfccahaaGreatDoor
open Go.RowKit

abbrev nlS : Value := .slice none 0 0
def encRx (k : Nat) : List Value := [.int .i64 1, .int .i64 0, .int .i64 0, rg1 k, nlS]
theorem encRx_len (k : Nat) : (encRx k).length = 5 := rfl
/-- no sign of a repetition, a union or a bracket begins here -/
structure HdOk (rest : List Nat) : Prop where
  a : hdI rest ≠ 42
  b : hdI rest ≠ 43
  c : hdI rest ≠ 63
  d : hdI rest ≠ 123
  e : hdI rest ≠ 124
  f : hdI rest ≠ 41
theorem hdOk_q (ws : List Nat) : HdOk (qL ws) := by
  cases ws with
  | nil => exact ⟨by decide, by decide, by decide, by decide, by decide, by decide⟩
  | cons w ws =>
    unfold qL
    rw [List.flatMap_cons]
    obtain ⟨c, hc, hcc⟩ := qR_hd w (ws.flatMap qR)
    rcases hcc with rfl | ⟨rfl, hsp⟩
    · exact ⟨by rw [hc]; decide, by rw [hc]; decide, by rw [hc]; decide, by rw [hc]; decide, by rw [hc]; decide, by rw [hc]; decide⟩
    · obtain ⟨h1, h2, h3, h4, h5, h6, h7, h8, h9, h10⟩ := nsp hsp
      exact ⟨by rw [hc]; exact h7, by rw [hc]; exact h8, by rw [hc]; exact h9, by rw [hc]; exact h5, by rw [hc]; exact h6, by rw [hc]; exact h4⟩
set_option maxHeartbeats 1000000 in
theorem repeat_fnW (b : Nat) (s : ByteArray) (pre rest : List Nat) (w : Nat) (H : Hp) (hT : U8T H) (h : At s pre (qR w ++ rest)) (hw : sc w) (hr : HdOk rest) :
    FnW Tryz.prog 70 #[.pointer (some ⟨b, 0, none⟩)] H [psB b s (ofs pre)] (fun u H' l' => ∃ k, u = .tuple #[rxV 1 (rg1 k) nlS, .bool true] ∧ RgS H' k w ∧ l' = [psB b s (ofs (pre ++ qR w))]) := by
  have at1 := atom_fnW b s pre rest w H hT h hw
  have n1 := fun H' hT' => next_fnS b s (pre ++ qR w) rest H' hT' h.app
  obtain ⟨h1, h2, h3, h4, _, _⟩ := hr
  refine FnW.of_T (vs := [.pointer (some ⟨b, 0, none⟩)]) Tryz.func70 rfl rfl fun _ => ?_; refine zs3 ?_; refine sy fun b2 => ?_; refine sa ?_; refine zs1 ?_; refine sm ?_; refine T.callW Wanted.none rfl rfl at1 zq1 ?_
  rintro _ H1 l1 hle ⟨k, rfl, hk, rfl⟩
  have n1 := n1 H1 (hT.mono hle)
  refine sm ?_; refine sv (PV.extract rfl rfl) ?_; refine sv (PV.extract rfl rfl) ?_; refine sy fun b4 => ?_; refine T.storeA Wanted.none rfl rfl zq8 (by exact rfl) zq14 zq13 ?_; refine sa ?_; refine so ?_; refine sq ?_; refine T.block ?_; refine T.rounds 0 ?_; refine sq ?_; refine zs3 ?_; refine sm ?_; refine so ?_; refine T.condT rfl rfl ?_; refine T.skip ?_; refine T.block ?_; refine zs3 ?_; refine sa ?_; refine sa ?_; refine so ?_; refine sq ?_; refine zs3 ?_; refine sm ?_; (refine T.callWV Wanted.none rfl rfl n1 zq1 ?_); refine so ?_; refine T.block ?_; refine zs3 ?_; refine sv (PV.eql rfl rfl) ?_; refine sa ?_; refine so ?_; refine sd rfl (by omega) ?_; refine zs3 ?_; refine sv (PV.eql rfl rfl) ?_; refine sa ?_; refine so ?_; refine sd rfl (by omega) ?_; refine zs3 ?_; refine sv (PV.eql rfl rfl) ?_; refine sa ?_
  refine so ?_; refine sd rfl (by omega) ?_; refine zs3 ?_; refine sv (PV.eql rfl rfl) ?_; refine sa ?_; refine so ?_; refine sd rfl (by omega) ?_; refine zs3 ?_; refine sv (PV.loadAll rfl zq0 (by exact rfl)) ?_; refine T.storeA Wanted.none rfl rfl zq8 (by exact rfl) zq14 zq13 ?_; refine sa ?_; refine so ?_
  exact T.retW (Lv.finW [psB b s (ofs (pre ++ qR w))] zq4 (RV.ct rfl (by exact CV.agg rfl zq0 (by exact rfl)) rfl) ⟨k, rfl, hk, rfl⟩)
/-- an expression that stands for code points -/
inductive LitR (H : Hp) : Value → List Nat → Prop
  | one {k w : Nat} (h : RgS H k w) : LitR H (rxV 1 (rg1 k) nlS) [w]
  | cat {ad : Option Addr} {cap : Nat} {ks ws : List Nat} (h1 : ws.length ≠ 1) (h2 : ks.length = ws.length) (h3 : SlR H 5 (.slice ad ks.length cap) ks.length (ks.flatMap encRx)) (h4 : ∀ (j k w : Nat), ks[j]? = some k → ws[j]? = some w → RgS H k w) : LitR H (rxV 2 nlS (.slice ad ks.length cap)) ws
structure CcG where
  i : Nat
  ks : List Nat
  v : Value
  lv : List (Nat × Obj)
  H : Hp
set_option maxHeartbeats 4000000 in
theorem concat_fnW (b : Nat) (s : ByteArray) (ws : List Nat) (H : Hp) (hT : U8T H) (h : At s [] (qL ws)) (hws : ∀ w ∈ ws, sc w) (hwl : ws.length ≤ 100) :
    FnW Tryz.prog 31 #[.pointer (some ⟨b, 0, none⟩)] H [psB b s (ofs [])] (fun u H' l' => ∃ e, u = .tuple #[e, .bool true] ∧ LitR H' e ws ∧ l' = [psB b s (ofs (qL ws))]) := by
  have hsp : ∀ i w, ws[i]? = some w → At s (qL (ws.take i)) (qR w ++ qL (ws.drop (i + 1))) ∧ qL (ws.take i) ++ qR w = qL (ws.take (i + 1)) := fun i w hw => by
    have hi := (List.getElem?_eq_some_iff.1 hw).1
    have e1 : ws = ws.take i ++ w :: ws.drop (i + 1) := by
      rw [← (List.getElem?_eq_some_iff.1 hw).2, ← List.drop_eq_getElem_cons hi, List.take_append_drop]
    constructor
    · have := h
      rw [e1] at this
      unfold qL at this
      rw [List.flatMap_append, List.flatMap_cons] at this
      have := At.app (pre := []) this
      rwa [List.nil_append] at this
    · rw [List.take_add_one, hw]
      unfold qL
      rw [List.flatMap_append]
      simp
  have n0 := next_fnS b s [] _ H hT h
  refine FnW.of_T (vs := [.pointer (some ⟨b, 0, none⟩)]) Tryz.func31 rfl rfl fun _ => ?_; refine zs3 ?_; refine sy fun b2 => ?_; refine sa ?_; refine zs1 ?_; refine sa ?_; refine so ?_; refine sq ?_; refine zs3 ?_; refine sm ?_; (refine T.callWV Wanted.none rfl rfl n0 zq1 ?_); refine sa ?_; refine so ?_; refine T.block ?_; refine T.loopK [(2, Value.pointer (some { block := b2, off := 0 })), (0, Value.pointer (some { block := b, off := 0 }))] zq8 (γ := CcG) (fun g => g.i ≤ ws.length ∧ g.ks.length = g.i ∧ H.le g.H ∧ Vec 37 5 g.v g.lv g.ks.length (g.ks.flatMap encRx) ∧ ∀ (j k w : Nat), g.ks[j]? = some k → ws[j]? = some w → RgS g.H k w) (fun g => [(5, .int .i32 (hdI (qL (ws.drop g.i)))), (4, g.v)]) (fun g => g.lv ++ (psB b s (ofs (qL (ws.take g.i))) :: [(b2, .cells #[.int .i64 0, .int .i64 0, .int .i64 0, nlS, nlS] 37 (0, 0))])) (fun g => g.H) (fun g => ws.length - g.i) ⟨0, [], nlS, [], H⟩ ⟨Nat.zero_le _, rfl, Hp.le.refl _, Vec.nil _ _, fun _ _ _ h => by simp at h⟩ zq8 (by repeat (first | exact Sel.refl _ | exact Sel.nil | (refine Sel.cons zq1 ?_) | (refine Sel.app zq1 ?_) | exact Sel.one zq1)) rfl ?_
  rintro ⟨i, ks, v, lv, Hk⟩ ⟨g1, g2, g3, g4, g5⟩
  dsimp only at g1 g2 g3 g4 g5 ⊢
  obtain ⟨ad, cap, rfl⟩ := g4.val
  by_cases hi : i < ws.length
  · obtain ⟨w, hw⟩ : ∃ w, ws[i]? = some w := ⟨_, List.getElem?_eq_getElem hi⟩
    obtain ⟨hat, hq⟩ := hsp i w hw
    have hr := hdOk_q (ws.drop (i + 1))
    have hwm := hws w (List.mem_of_getElem? hw)
    have hrp := repeat_fnW b s _ _ w Hk (hT.mono g3) hat hwm hr
    have hd0 : qL (ws.drop i) = qR w ++ qL (ws.drop (i + 1)) := by
      rw [List.drop_eq_getElem_cons hi, (List.getElem?_eq_some_iff.1 hw).2]
      unfold qL; rw [List.flatMap_cons]
    have hh0 := hdOk_q (ws.drop i)
    have hpos : 0 ≤ hdI (qL (ws.drop i)) := by
      rw [hd0]
      obtain ⟨c, hc, _⟩ := qR_hd w (qL (ws.drop (i + 1)))
      rw [hc]; omega
    have hne1 := hh0.e
    have hne2 := hh0.f
    have hnx := fun H' hT' => next_fnS b s _ _ H' hT' hat.app
    rw [hq] at hnx
    refine sq ?_; refine zs3 ?_; refine sm ?_; refine sv (PV.geq rfl rfl) ?_; refine sm ?_; refine T.setT (d := 12) rfl (by omega) ?_; refine gm ?_; refine gv (PV.neq rfl rfl) ?_; refine sT ?_; refine sm ?_; refine T.setT (d := 16) rfl (by omega) ?_; refine gm ?_; refine gv (PV.neq rfl rfl) ?_; refine sT ?_; refine so ?_; refine sC rfl (by omega) ?_; refine T.skip ?_; refine sq ?_; refine T.block ?_; refine zs3 ?_; refine sm ?_; refine T.callW Wanted.none rfl rfl hrp zq1 ?_
    rintro _ H1 l1 hle1 ⟨k, rfl, hk, rfl⟩
    rw [hq]
    have hnx := hnx H1 (hT.mono (g3.trans hle1))
    refine sm ?_; refine sv (PV.extract rfl rfl) ?_; refine sv (PV.extract rfl rfl) ?_; refine sy fun b6 => ?_; refine T.storeA Wanted.none rfl rfl zq8 (by exact rfl) zq14 zq13 ?_; refine sa ?_; refine so ?_; refine sq ?_; refine zs3 ?_; refine sm ?_; refine sv (PV.not rfl) ?_; refine so ?_; refine T.condF rfl rfl ?_; refine T.skip ?_; refine zs3 ?_; refine sf ?_; refine sl ?_; refine sv (PV.eql rfl rfl) ?_; refine so ?_; refine T.condF rfl rfl ?_; refine sr ?_; refine sm ?_; refine sv (PV.loadAll rfl zq0 (by exact rfl)) ?_; (refine T.buildSlice Wanted.none rfl rfl zq11 (by exact rfl) (by exact rfl) ?_; intro b39); (refine T.appendP (lv := lv) Wanted.none rfl rfl rfl g4 (Src.cells (m := 1) (ys := [.int .i64 1, .int .i64 0, .int .i64 0, rg1 k, nlS]) (.own zq2) rfl rfl) (by intro v hv; simp at hv; rcases hv with rfl | rfl | rfl | rfl <;> rfl) (by omega) zq1 ?_; intro v40 lv40 hv40 _; obtain ⟨ad40, cap40, rfl⟩ := hv40.val); refine sa ?_; refine so ?_; refine T.blkEnd ?_; refine sr ?_; refine sm ?_; (refine T.callWV Wanted.none rfl rfl hnx zq1 ?_); refine sa ?_; refine so ?_
    refine T.nextP ⟨i + 1, ks ++ [k], .slice ad40 (ks.length + 1) cap40, lv40, H1⟩ ⟨by dsimp only; omega, by simp [g2], g3.trans hle1, ?_, fun j k' w' hk' hw' => ?_⟩ (by dsimp only; omega) zq8 (by repeat (first | exact Sel.refl _ | exact Sel.nil | (refine Sel.cons zq1 ?_) | (refine Sel.app zq1 ?_) | exact Sel.one zq1)) rfl
    · dsimp only
      rw [List.length_append, List.flatMap_append]
      simpa [encRx] using hv40
    · dsimp only at hk'
      by_cases hj : j < i
      · rw [List.getElem?_append_left (by omega)] at hk'
        exact (g5 j k' w' hk' hw').mono hle1
      · have hj2 := (List.getElem?_eq_some_iff.1 hk').1
        rw [List.length_append] at hj2
        simp at hj2
        obtain rfl : j = i := by omega
        rw [List.getElem?_append_right (by omega)] at hk'
        simp [g2] at hk'
        subst hk'
        rw [hw] at hw'; cases hw'
        exact hk
  · obtain rfl : i = ws.length := by omega
    have hd0 : ws.drop ws.length = [] := List.drop_of_length_le (Nat.le_refl _)
    have ht0 : ws.take ws.length = ws := List.take_of_length_le (Nat.le_refl _)
    rw [hd0, ht0]
    have hnil : hdI (qL []) = -1 := rfl
    rw [hnil]
    by_cases h1 : ks.length = 1
    · obtain ⟨k, rfl⟩ : ∃ k, ks = [k] := by
        match ks, h1 with
        | [k], _ => exact ⟨k, rfl⟩
      obtain ⟨w, rfl⟩ : ∃ w, ws = [w] := by
        match ws, g2 with
        | [w], _ => exact ⟨w, rfl⟩
      obtain ⟨bv, cv, hve⟩ := g4.ptr (by simp)
      injection hve with e1 e2 e3
      subst e1 e3
      obtain ⟨_, _, _, tl, rfl, _⟩ := g4.row (by simp [encRx])
      refine sq ?_; refine zs3 ?_; refine sm ?_; refine sv (PV.geq rfl rfl) ?_; refine sm ?_; refine sp ?_; refine sp ?_; refine sF ?_; refine sm ?_; refine sp ?_; refine sp ?_; refine sF ?_; refine so ?_; refine T.condF rfl rfl ?_; refine T.exit rfl ?_; refine sq ?_; refine zs3 ?_; refine sm ?_; refine sv (PV.lenSl rfl) ?_; refine sv (PV.eql rfl rfl) ?_; refine so ?_; refine T.condT rfl rfl ?_; refine zs3 ?_; refine sm ?_; refine sv (PV.indexAddr rfl rfl (by omega)) ?_; refine sv (PV.loadAgg rfl zq0 (by exact rfl) (by exact rfl)) ?_; refine T.storeA Wanted.none rfl rfl zq8 (by exact rfl) zq14 zq13 ?_; refine sa ?_; refine so ?_
      exact T.retW (Lv.finW [psB b s (ofs (qL [w]))] zq4 (RV.ct rfl (by exact CV.agg rfl zq0 (by exact rfl)) rfl) ⟨_, rfl, .one (g5 0 k w rfl rfl), rfl⟩)
    · refine T.freezeP (lv := lv) g4 zq1 ?_
      intro Ha hla hsa
      refine sq ?_; refine zs3 ?_; refine sm ?_; refine sv (PV.geq rfl rfl) ?_; refine sm ?_; refine sp ?_; refine sp ?_; refine sF ?_; refine sm ?_; refine sp ?_; refine sp ?_; refine sF ?_; refine so ?_; refine T.condF rfl rfl ?_; refine T.exit rfl ?_; refine sq ?_; refine zs3 ?_; refine sm ?_; refine sv (PV.lenSl rfl) ?_; refine sv (PV.eql rfl rfl) ?_; refine so ?_; refine sd rfl (by omega) ?_; refine T.skip ?_; refine zs3 ?_; refine sm ?_; refine sv (PV.build rfl zq12) ?_; refine T.storeA Wanted.none rfl rfl zq8 (by exact rfl) zq14 zq13 ?_; refine sa ?_; refine so ?_
      exact T.retW (Lv.finW [psB b s (ofs (qL ws))] zq4 (RV.ct rfl (by exact CV.agg rfl zq0 (by exact rfl)) rfl) ⟨_, rfl, .cat (by omega) g2 hsa fun j k w hk hw => (g5 j k w hk hw).mono hla, rfl⟩)
end Go.Proofs.YtpjdhokpfccahaaGreatDoor
