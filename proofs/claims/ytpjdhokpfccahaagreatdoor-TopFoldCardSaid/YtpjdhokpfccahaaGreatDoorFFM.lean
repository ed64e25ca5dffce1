/- the statement Fold. -/
import Derived.Test.YtpjdhokpfccahaaGreatDoorGY
import Derived.Test.YtpjdhokpfccahaaGreatDoorGN
namespace Go.Proofs.YtpjdhokpfccahaaGreatDoor
open Go.RowKit

theorem dec_at {s : ByteArray} {vs : List Nat} (q1 : encL vs = s.data.toList) (q2 : ∀ r ∈ vs, sc r) {j v : Nat} (hv : vs[j]? = some v) : ofs (vs.take j) < s.size ∧ Utf8.decode s (ofs (vs.take j)) = (v, (encB v).length) ∧ ofs (vs.take (j + 1)) = ofs (vs.take j) + (encB v).length := by
  have hsz : s.size = ofs vs := by rw [← size_list, ← q1]; rfl
  have hj := (List.getElem?_eq_some_iff.1 hv).1
  have e1 : vs = vs.take j ++ v :: vs.drop (j + 1) := by
    rw [← (List.getElem?_eq_some_iff.1 hv).2, ← List.drop_eq_getElem_cons hj, List.take_append_drop]
  have hb := encB_len v
  refine ⟨?_, ?_, ?_⟩
  · rw [hsz]
    conv => rhs; rw [e1]
    rw [ofs_app, show v :: vs.drop (j + 1) = [v] ++ vs.drop (j + 1) from rfl, ofs_app, ofs_one]
    omega
  · have e2 : encL vs = encL (vs.take j) ++ (encB v ++ encL (vs.drop (j + 1))) := by
      conv => lhs; rw [e1]
      unfold encL; rw [List.flatMap_append, List.flatMap_cons]
    rw [decode_B, ← q1, e2]
    unfold ofs
    rw [List.drop_left, decB_enc (q2 v (List.mem_of_getElem? hv))]
  · rw [List.take_add_one, hv, Option.toList_some, ofs_app, ofs_one]
theorem vvE_valid {s : ByteArray} (h : vvE s = 0) : validS s = true := by
  unfold vvE at h
  split at h
  · cases h
  · split at h
    · cases h
    · rename_i h1; simpa using h1
theorem LitR.shape {H : Hp} {e : Value} {ws : List Nat} (h : LitR H e ws) : ∃ o a1 n1 c1 a2 n2 c2, e = rxV o (.slice a1 n1 c1) (.slice a2 n2 c2) := by
  cases h with
  | one h => exact ⟨_, _, _, _, _, _, _, rfl⟩
  | cat c1 c2 c3 c4 => exact ⟨_, _, _, _, _, _, _, rfl⟩
structure QuG where
  i : Nat
  q : ByteArray
structure TkG where
  i : Nat
  v : Value
  lv : List (Nat × Obj)
  tks : List Tk
  H : Hp
structure InG where
  i : Nat
  v : Value
  lv : List (Nat × Obj)
set_option maxRecDepth 100000 in
set_option maxHeartbeats 8000000 in
theorem fold_law (haw : ∀ H, Fn Tryz.prog 11 #[] H (fun u _ => u = .bool true)) (c : Cp) (s : ByteArray) (H : Hp) (hT : U8T H) (hc : CpR H c) (hfs : s.size ≤ 9223372036854775807) :
    Fn Tryz.prog 3 #[cpV c, .string s] H (fun u _ => u = .bool true) := by
  have hti := tiny_fn c H hc
  have hvv := vv_fn s H
  obtain ⟨aa, ca, e1⟩ := hc.a.len
  obtain ⟨at1, ct, e2⟩ := hc.t.len
  obtain ⟨ax, cx, e3⟩ := hc.x.1.len
  obtain ⟨ar, cr, e4⟩ := hc.r.1.len
  obtain ⟨an, cn, e5⟩ := hc.n.len
  obtain ⟨ah, ch, e6⟩ := hc.h.len
  obtain ⟨as1, cs, e7⟩ := hc.s.len
  have hcv : cpV c = .agg #[.slice aa c.att.length ca, .slice at1 c.tk.length ct, .slice ax c.tx.length cx, .slice ar c.rg.length cr, .slice an c.nd.length cn, .slice ah c.hd.length ch, .slice as1 c.rl.length cs] := by unfold cpV; rw [e1, e2, e3, e4, e5, e6, e7]
  rw [hcv] at hti ⊢
  refine Fn.of_T (vs := [.agg #[.slice aa c.att.length ca, .slice at1 c.tk.length ct, .slice ax c.tx.length cx, .slice ar c.rg.length cr, .slice an c.nd.length cn, .slice ah c.hd.length ch, .slice as1 c.rl.length cs], .string s]) Tryz.func3 rfl rfl fun w => ?_; refine zs3 ?_; (refine T.box Wanted.none rfl rfl zq15 ?_; intro b2); refine sa ?_; refine so ?_; refine sq ?_; refine zs3 ?_; refine sv (PV.loadAll rfl zq0 (by exact rfl)) ?_; (refine T.callX Wanted.none rfl rfl hti ?_; rintro _ ⟨b26, rfl, hb26⟩); refine sv (PV.not rfl) ?_; refine sm ?_
  cases b26
  · refine sp ?_; refine sp ?_; refine sp ?_; refine sT ?_; refine sm ?_; refine sp ?_; refine sp ?_; refine sp ?_; refine sT ?_; refine so ?_; refine T.condT rfl rfl ?_; refine zs3 ?_; refine sa ?_; refine so ?_
    exact T.retF (Lv.fin (RV.tmp rfl rfl) rfl)
  obtain ⟨hA, hg⟩ := hb26 rfl
  by_cases h1 : 30 < s.size
  · refine gm ?_; refine gv (PV.lenStr rfl) ?_; refine gv (PV.gtr rfl rfl) ?_; refine sF ?_; refine sm ?_; refine T.setT (d := 33) rfl (by omega) ?_; refine sp ?_; refine sp ?_; refine sp ?_; refine sT ?_; refine so ?_; refine T.condT rfl rfl ?_; refine zs3 ?_; refine sa ?_; refine so ?_
    exact T.retF (Lv.fin (RV.tmp rfl rfl) rfl)
  by_cases h2 : vvE s ≠ 0
  · refine gm ?_; refine gv (PV.lenStr rfl) ?_; refine gv (PV.gtr rfl rfl) ?_; refine sF ?_; refine sm ?_; refine T.setF (d := 33) rfl (by omega) ?_; refine gm ?_; refine T.callV (Wanted.guard rfl rfl rfl) rfl rfl (hvv) ?_; refine gv (PV.neq rfl rfl) ?_; refine sF ?_; refine so ?_; refine sC rfl (by omega) ?_; refine zs3 ?_; refine sa ?_; refine so ?_
    exact T.retF (Lv.fin (RV.tmp rfl rfl) rfl)
  have h2 : vvE s = 0 := by omega
  have hval : validS s = true := vvE_valid h2
  rw [validS_ub] at hval
  obtain ⟨q1, q2⟩ := enc_scs hval
  have hscf := scs_fold hval
  obtain ⟨ws, hws⟩ : ∃ ws, scs s.data.toList = ws := ⟨_, rfl⟩
  rw [hws] at q1 q2 hscf
  have hsz : s.size = ofs ws := by rw [← size_list, ← q1]; rfl
  have hwl : (encL ws).length ≤ 30 := by unfold ofs at hsz; omega
  have hwn := encL_ge ws
  refine gm ?_; refine gv (PV.lenStr rfl) ?_; refine gv (PV.gtr rfl rfl) ?_; refine sF ?_; refine sm ?_; refine T.setF (d := 33) rfl (by omega) ?_; refine gm ?_; refine T.callV (Wanted.guard rfl rfl rfl) rfl rfl (hvv) ?_; refine gv (PV.neq rfl rfl) ?_; refine sF ?_; refine so ?_; refine sd rfl (by omega) ?_; refine T.skip ?_; refine zs3 ?_; refine sa ?_; refine so ?_; refine sq ?_; refine zs3 ?_; refine sm ?_; (refine T.rangeStr Wanted.none rfl rfl ?_; intro b39); refine so ?_; refine T.block ?_; refine T.loopK [(39, Value.pointer (some { block := b39, off := 0 })), (2, Value.pointer (some { block := b2, off := 0 })), (1, Value.string s)] zq8 (γ := QuG) (fun g => g.i ≤ ws.length ∧ g.q.data.toList = encL (qL (ws.take g.i))) (fun g => [(5, .string g.q)]) (fun g => (b39, .stringIter s (ofs (ws.take g.i))) :: _) (fun _ => H) (fun g => ws.length - g.i) ⟨0, ⟨#[]⟩⟩ ⟨Nat.zero_le _, rfl⟩ zq8 (Sel.refl _) rfl ?_
  rintro ⟨i, q⟩ ⟨g1, g2⟩
  dsimp only at g1 g2 ⊢
  have hql : q.size ≤ 60 := by
    have e1 := congrArg List.length g2
    have e2 := qL_len (ws.take i)
    have e3 : (encL (ws.take i)).length ≤ (encL ws).length := by
      conv => rhs; rw [← List.take_append_drop i ws, encL_app, List.length_append]
      omega
    rw [size_list] at e1
    omega
  by_cases hi : i < ws.length
  · obtain ⟨v, hv⟩ : ∃ v, ws[i]? = some v := ⟨_, List.getElem?_eq_getElem hi⟩
    obtain ⟨d1, d2, d3⟩ := dec_at q1 q2 hv
    have hsv := q2 v (List.mem_of_getElem? hv)
    refine zs3 ?_; refine T.nextStr zq22 rfl rfl (by assumption) (by assumption) zq14 ?_
    have hez : (Utf8.encode (v : Int)).size ≤ 4 := by rw [← size_list, encode_B hsv]; exact (encB_len v).2
    have h92 : (⟨#[92]⟩ : ByteArray).size = 1 := rfl
    have hqz : (q ++ ⟨#[92]⟩).size ≤ 61 := by rw [app_size]; omega
    refine sv (PV.extract rfl rfl) ?_; refine so ?_; refine sq ?_; refine T.condT rfl rfl ?_; refine T.skip ?_; refine T.block ?_; refine zs3 ?_; refine sv (PV.extract rfl rfl) ?_; refine sa ?_; refine so ?_; refine sq ?_; refine zs3 ?_; refine sm ?_; refine so ?_; refine T.block ?_; refine sq ?_; refine zs3 ?_; refine sv (PV.eql rfl rfl) ?_; refine sa ?_; refine so ?_
    by_cases hk0 : (v : Int) = 92
    · refine sC rfl (by omega) ?_; refine T.skip ?_; refine sC rfl (by omega) ?_; refine sr ?_; refine sm ?_; refine sv (PV.sadd rfl rfl (by omega)) ?_; refine sa ?_; refine so ?_; refine T.blkEnd ?_; refine sr ?_; refine sm ?_; refine sm ?_; refine sv (PV.convRune rfl) ?_; refine sv (PV.sadd rfl rfl (by omega)) ?_; refine sa ?_; refine so ?_; refine T.blkEnd ?_
      rw [← d3]
      exact T.nextP ⟨i + 1, q ++ ⟨#[92]⟩ ++ Utf8.encode (v : Int)⟩ ⟨by dsimp only; omega, quote2 g2 hv hsv (spc_mem.2 (by omega))⟩ (by dsimp only; omega) zq8 (by repeat (first | exact Sel.refl _ | exact Sel.nil | (refine Sel.cons zq1 ?_) | (refine Sel.app zq1 ?_) | exact Sel.one zq1)) rfl
    by_cases hk1 : (v : Int) = 46
    · refine sd rfl (by omega) ?_; refine zs3 ?_; refine sv (PV.eql rfl rfl) ?_; refine sa ?_; refine so ?_; refine sC rfl (by omega) ?_; refine T.skip ?_; refine sC rfl (by omega) ?_; refine sr ?_; refine sm ?_; refine sv (PV.sadd rfl rfl (by omega)) ?_; refine sa ?_; refine so ?_; refine T.blkEnd ?_; refine sr ?_; refine sm ?_; refine sm ?_; refine sv (PV.convRune rfl) ?_; refine sv (PV.sadd rfl rfl (by omega)) ?_; refine sa ?_; refine so ?_; refine T.blkEnd ?_
      rw [← d3]
      exact T.nextP ⟨i + 1, q ++ ⟨#[92]⟩ ++ Utf8.encode (v : Int)⟩ ⟨by dsimp only; omega, quote2 g2 hv hsv (spc_mem.2 (by omega))⟩ (by dsimp only; omega) zq8 (by repeat (first | exact Sel.refl _ | exact Sel.nil | (refine Sel.cons zq1 ?_) | (refine Sel.app zq1 ?_) | exact Sel.one zq1)) rfl
    by_cases hk2 : (v : Int) = 91
    · refine sd rfl (by omega) ?_; refine zs3 ?_; refine sv (PV.eql rfl rfl) ?_; refine sa ?_; refine so ?_; refine sd rfl (by omega) ?_; refine zs3 ?_; refine sv (PV.eql rfl rfl) ?_; refine sa ?_; refine so ?_; refine sC rfl (by omega) ?_; refine T.skip ?_; refine sC rfl (by omega) ?_; refine sr ?_; refine sm ?_; refine sv (PV.sadd rfl rfl (by omega)) ?_; refine sa ?_; refine so ?_; refine T.blkEnd ?_; refine sr ?_; refine sm ?_; refine sm ?_; refine sv (PV.convRune rfl) ?_; refine sv (PV.sadd rfl rfl (by omega)) ?_; refine sa ?_; refine so ?_; refine T.blkEnd ?_
      rw [← d3]
      exact T.nextP ⟨i + 1, q ++ ⟨#[92]⟩ ++ Utf8.encode (v : Int)⟩ ⟨by dsimp only; omega, quote2 g2 hv hsv (spc_mem.2 (by omega))⟩ (by dsimp only; omega) zq8 (by repeat (first | exact Sel.refl _ | exact Sel.nil | (refine Sel.cons zq1 ?_) | (refine Sel.app zq1 ?_) | exact Sel.one zq1)) rfl
    by_cases hk3 : (v : Int) = 93
    · refine sd rfl (by omega) ?_; refine zs3 ?_; refine sv (PV.eql rfl rfl) ?_; refine sa ?_; refine so ?_; refine sd rfl (by omega) ?_; refine zs3 ?_; refine sv (PV.eql rfl rfl) ?_; refine sa ?_; refine so ?_; refine sd rfl (by omega) ?_; refine zs3 ?_; refine sv (PV.eql rfl rfl) ?_; refine sa ?_; refine so ?_; refine sC rfl (by omega) ?_; refine T.skip ?_; refine sC rfl (by omega) ?_; refine sr ?_; refine sm ?_; refine sv (PV.sadd rfl rfl (by omega)) ?_; refine sa ?_; refine so ?_; refine T.blkEnd ?_; refine sr ?_; refine sm ?_; refine sm ?_; refine sv (PV.convRune rfl) ?_; refine sv (PV.sadd rfl rfl (by omega)) ?_; refine sa ?_; refine so ?_; refine T.blkEnd ?_
      rw [← d3]
      exact T.nextP ⟨i + 1, q ++ ⟨#[92]⟩ ++ Utf8.encode (v : Int)⟩ ⟨by dsimp only; omega, quote2 g2 hv hsv (spc_mem.2 (by omega))⟩ (by dsimp only; omega) zq8 (by repeat (first | exact Sel.refl _ | exact Sel.nil | (refine Sel.cons zq1 ?_) | (refine Sel.app zq1 ?_) | exact Sel.one zq1)) rfl
    by_cases hk4 : (v : Int) = 40
    · refine sd rfl (by omega) ?_; refine zs3 ?_; refine sv (PV.eql rfl rfl) ?_; refine sa ?_; refine so ?_; refine sd rfl (by omega) ?_; refine zs3 ?_; refine sv (PV.eql rfl rfl) ?_; refine sa ?_; refine so ?_; refine sd rfl (by omega) ?_; refine zs3 ?_; refine sv (PV.eql rfl rfl) ?_; refine sa ?_; refine so ?_; refine sd rfl (by omega) ?_; refine zs3 ?_; refine sv (PV.eql rfl rfl) ?_; refine sa ?_; refine so ?_; refine sC rfl (by omega) ?_; refine T.skip ?_; refine sC rfl (by omega) ?_; refine sr ?_; refine sm ?_; refine sv (PV.sadd rfl rfl (by omega)) ?_; refine sa ?_; refine so ?_; refine T.blkEnd ?_; refine sr ?_; refine sm ?_; refine sm ?_; refine sv (PV.convRune rfl) ?_; refine sv (PV.sadd rfl rfl (by omega)) ?_; refine sa ?_; refine so ?_; refine T.blkEnd ?_
      rw [← d3]
      exact T.nextP ⟨i + 1, q ++ ⟨#[92]⟩ ++ Utf8.encode (v : Int)⟩ ⟨by dsimp only; omega, quote2 g2 hv hsv (spc_mem.2 (by omega))⟩ (by dsimp only; omega) zq8 (by repeat (first | exact Sel.refl _ | exact Sel.nil | (refine Sel.cons zq1 ?_) | (refine Sel.app zq1 ?_) | exact Sel.one zq1)) rfl
    by_cases hk5 : (v : Int) = 41
    · refine sd rfl (by omega) ?_; refine zs3 ?_; refine sv (PV.eql rfl rfl) ?_; refine sa ?_; refine so ?_; refine sd rfl (by omega) ?_; refine zs3 ?_; refine sv (PV.eql rfl rfl) ?_; refine sa ?_; refine so ?_; refine sd rfl (by omega) ?_; refine zs3 ?_; refine sv (PV.eql rfl rfl) ?_; refine sa ?_; refine so ?_; refine sd rfl (by omega) ?_; refine zs3 ?_; refine sv (PV.eql rfl rfl) ?_; refine sa ?_; refine so ?_; refine sd rfl (by omega) ?_; refine zs3 ?_; refine sv (PV.eql rfl rfl) ?_; refine sa ?_; refine so ?_; refine sC rfl (by omega) ?_; refine T.skip ?_; refine sC rfl (by omega) ?_; refine sr ?_; refine sm ?_; refine sv (PV.sadd rfl rfl (by omega)) ?_; refine sa ?_; refine so ?_; refine T.blkEnd ?_; refine sr ?_; refine sm ?_; refine sm ?_; refine sv (PV.convRune rfl) ?_; refine sv (PV.sadd rfl rfl (by omega)) ?_; refine sa ?_
      refine so ?_; refine T.blkEnd ?_
      rw [← d3]
      exact T.nextP ⟨i + 1, q ++ ⟨#[92]⟩ ++ Utf8.encode (v : Int)⟩ ⟨by dsimp only; omega, quote2 g2 hv hsv (spc_mem.2 (by omega))⟩ (by dsimp only; omega) zq8 (by repeat (first | exact Sel.refl _ | exact Sel.nil | (refine Sel.cons zq1 ?_) | (refine Sel.app zq1 ?_) | exact Sel.one zq1)) rfl
    by_cases hk6 : (v : Int) = 123
    · refine sd rfl (by omega) ?_; refine zs3 ?_; refine sv (PV.eql rfl rfl) ?_; refine sa ?_; refine so ?_; refine sd rfl (by omega) ?_; refine zs3 ?_; refine sv (PV.eql rfl rfl) ?_; refine sa ?_; refine so ?_; refine sd rfl (by omega) ?_; refine zs3 ?_; refine sv (PV.eql rfl rfl) ?_; refine sa ?_; refine so ?_; refine sd rfl (by omega) ?_; refine zs3 ?_; refine sv (PV.eql rfl rfl) ?_; refine sa ?_; refine so ?_; refine sd rfl (by omega) ?_; refine zs3 ?_; refine sv (PV.eql rfl rfl) ?_; refine sa ?_; refine so ?_; refine sd rfl (by omega) ?_; refine zs3 ?_; refine sv (PV.eql rfl rfl) ?_; refine sa ?_; refine so ?_; refine sC rfl (by omega) ?_; refine T.skip ?_; refine sC rfl (by omega) ?_; refine sr ?_; refine sm ?_; refine sv (PV.sadd rfl rfl (by omega)) ?_; refine sa ?_; refine so ?_; refine T.blkEnd ?_; refine sr ?_
      refine sm ?_; refine sm ?_; refine sv (PV.convRune rfl) ?_; refine sv (PV.sadd rfl rfl (by omega)) ?_; refine sa ?_; refine so ?_; refine T.blkEnd ?_
      rw [← d3]
      exact T.nextP ⟨i + 1, q ++ ⟨#[92]⟩ ++ Utf8.encode (v : Int)⟩ ⟨by dsimp only; omega, quote2 g2 hv hsv (spc_mem.2 (by omega))⟩ (by dsimp only; omega) zq8 (by repeat (first | exact Sel.refl _ | exact Sel.nil | (refine Sel.cons zq1 ?_) | (refine Sel.app zq1 ?_) | exact Sel.one zq1)) rfl
    by_cases hk7 : (v : Int) = 125
    · refine sd rfl (by omega) ?_; refine zs3 ?_; refine sv (PV.eql rfl rfl) ?_; refine sa ?_; refine so ?_; refine sd rfl (by omega) ?_; refine zs3 ?_; refine sv (PV.eql rfl rfl) ?_; refine sa ?_; refine so ?_; refine sd rfl (by omega) ?_; refine zs3 ?_; refine sv (PV.eql rfl rfl) ?_; refine sa ?_; refine so ?_; refine sd rfl (by omega) ?_; refine zs3 ?_; refine sv (PV.eql rfl rfl) ?_; refine sa ?_; refine so ?_; refine sd rfl (by omega) ?_; refine zs3 ?_; refine sv (PV.eql rfl rfl) ?_; refine sa ?_; refine so ?_; refine sd rfl (by omega) ?_; refine zs3 ?_; refine sv (PV.eql rfl rfl) ?_; refine sa ?_; refine so ?_; refine sd rfl (by omega) ?_; refine zs3 ?_; refine sv (PV.eql rfl rfl) ?_; refine sa ?_; refine so ?_; refine sC rfl (by omega) ?_; refine T.skip ?_; refine sC rfl (by omega) ?_; refine sr ?_; refine sm ?_
      refine sv (PV.sadd rfl rfl (by omega)) ?_; refine sa ?_; refine so ?_; refine T.blkEnd ?_; refine sr ?_; refine sm ?_; refine sm ?_; refine sv (PV.convRune rfl) ?_; refine sv (PV.sadd rfl rfl (by omega)) ?_; refine sa ?_; refine so ?_; refine T.blkEnd ?_
      rw [← d3]
      exact T.nextP ⟨i + 1, q ++ ⟨#[92]⟩ ++ Utf8.encode (v : Int)⟩ ⟨by dsimp only; omega, quote2 g2 hv hsv (spc_mem.2 (by omega))⟩ (by dsimp only; omega) zq8 (by repeat (first | exact Sel.refl _ | exact Sel.nil | (refine Sel.cons zq1 ?_) | (refine Sel.app zq1 ?_) | exact Sel.one zq1)) rfl
    by_cases hk8 : (v : Int) = 124
    · refine sd rfl (by omega) ?_; refine zs3 ?_; refine sv (PV.eql rfl rfl) ?_; refine sa ?_; refine so ?_; refine sd rfl (by omega) ?_; refine zs3 ?_; refine sv (PV.eql rfl rfl) ?_; refine sa ?_; refine so ?_; refine sd rfl (by omega) ?_; refine zs3 ?_; refine sv (PV.eql rfl rfl) ?_; refine sa ?_; refine so ?_; refine sd rfl (by omega) ?_; refine zs3 ?_; refine sv (PV.eql rfl rfl) ?_; refine sa ?_; refine so ?_; refine sd rfl (by omega) ?_; refine zs3 ?_; refine sv (PV.eql rfl rfl) ?_; refine sa ?_; refine so ?_; refine sd rfl (by omega) ?_; refine zs3 ?_; refine sv (PV.eql rfl rfl) ?_; refine sa ?_; refine so ?_; refine sd rfl (by omega) ?_; refine zs3 ?_; refine sv (PV.eql rfl rfl) ?_; refine sa ?_; refine so ?_; refine sd rfl (by omega) ?_; refine zs3 ?_; refine sv (PV.eql rfl rfl) ?_; refine sa ?_; refine so ?_
      refine sC rfl (by omega) ?_; refine T.skip ?_; refine sC rfl (by omega) ?_; refine sr ?_; refine sm ?_; refine sv (PV.sadd rfl rfl (by omega)) ?_; refine sa ?_; refine so ?_; refine T.blkEnd ?_; refine sr ?_; refine sm ?_; refine sm ?_; refine sv (PV.convRune rfl) ?_; refine sv (PV.sadd rfl rfl (by omega)) ?_; refine sa ?_; refine so ?_; refine T.blkEnd ?_
      rw [← d3]
      exact T.nextP ⟨i + 1, q ++ ⟨#[92]⟩ ++ Utf8.encode (v : Int)⟩ ⟨by dsimp only; omega, quote2 g2 hv hsv (spc_mem.2 (by omega))⟩ (by dsimp only; omega) zq8 (by repeat (first | exact Sel.refl _ | exact Sel.nil | (refine Sel.cons zq1 ?_) | (refine Sel.app zq1 ?_) | exact Sel.one zq1)) rfl
    by_cases hk9 : (v : Int) = 42
    · refine sd rfl (by omega) ?_; refine zs3 ?_; refine sv (PV.eql rfl rfl) ?_; refine sa ?_; refine so ?_; refine sd rfl (by omega) ?_; refine zs3 ?_; refine sv (PV.eql rfl rfl) ?_; refine sa ?_; refine so ?_; refine sd rfl (by omega) ?_; refine zs3 ?_; refine sv (PV.eql rfl rfl) ?_; refine sa ?_; refine so ?_; refine sd rfl (by omega) ?_; refine zs3 ?_; refine sv (PV.eql rfl rfl) ?_; refine sa ?_; refine so ?_; refine sd rfl (by omega) ?_; refine zs3 ?_; refine sv (PV.eql rfl rfl) ?_; refine sa ?_; refine so ?_; refine sd rfl (by omega) ?_; refine zs3 ?_; refine sv (PV.eql rfl rfl) ?_; refine sa ?_; refine so ?_; refine sd rfl (by omega) ?_; refine zs3 ?_; refine sv (PV.eql rfl rfl) ?_; refine sa ?_; refine so ?_; refine sd rfl (by omega) ?_; refine zs3 ?_; refine sv (PV.eql rfl rfl) ?_; refine sa ?_; refine so ?_
      refine sd rfl (by omega) ?_; refine zs3 ?_; refine sv (PV.eql rfl rfl) ?_; refine sa ?_; refine so ?_; refine sC rfl (by omega) ?_; refine T.skip ?_; refine sC rfl (by omega) ?_; refine sr ?_; refine sm ?_; refine sv (PV.sadd rfl rfl (by omega)) ?_; refine sa ?_; refine so ?_; refine T.blkEnd ?_; refine sr ?_; refine sm ?_; refine sm ?_; refine sv (PV.convRune rfl) ?_; refine sv (PV.sadd rfl rfl (by omega)) ?_; refine sa ?_; refine so ?_; refine T.blkEnd ?_
      rw [← d3]
      exact T.nextP ⟨i + 1, q ++ ⟨#[92]⟩ ++ Utf8.encode (v : Int)⟩ ⟨by dsimp only; omega, quote2 g2 hv hsv (spc_mem.2 (by omega))⟩ (by dsimp only; omega) zq8 (by repeat (first | exact Sel.refl _ | exact Sel.nil | (refine Sel.cons zq1 ?_) | (refine Sel.app zq1 ?_) | exact Sel.one zq1)) rfl
    by_cases hk10 : (v : Int) = 43
    · refine sd rfl (by omega) ?_; refine zs3 ?_; refine sv (PV.eql rfl rfl) ?_; refine sa ?_; refine so ?_; refine sd rfl (by omega) ?_; refine zs3 ?_; refine sv (PV.eql rfl rfl) ?_; refine sa ?_; refine so ?_; refine sd rfl (by omega) ?_; refine zs3 ?_; refine sv (PV.eql rfl rfl) ?_; refine sa ?_; refine so ?_; refine sd rfl (by omega) ?_; refine zs3 ?_; refine sv (PV.eql rfl rfl) ?_; refine sa ?_; refine so ?_; refine sd rfl (by omega) ?_; refine zs3 ?_; refine sv (PV.eql rfl rfl) ?_; refine sa ?_; refine so ?_; refine sd rfl (by omega) ?_; refine zs3 ?_; refine sv (PV.eql rfl rfl) ?_; refine sa ?_; refine so ?_; refine sd rfl (by omega) ?_; refine zs3 ?_; refine sv (PV.eql rfl rfl) ?_; refine sa ?_; refine so ?_; refine sd rfl (by omega) ?_; refine zs3 ?_; refine sv (PV.eql rfl rfl) ?_; refine sa ?_; refine so ?_
      refine sd rfl (by omega) ?_; refine zs3 ?_; refine sv (PV.eql rfl rfl) ?_; refine sa ?_; refine so ?_; refine sd rfl (by omega) ?_; refine zs3 ?_; refine sv (PV.eql rfl rfl) ?_; refine sa ?_; refine so ?_; refine sC rfl (by omega) ?_; refine T.skip ?_; refine sC rfl (by omega) ?_; refine sr ?_; refine sm ?_; refine sv (PV.sadd rfl rfl (by omega)) ?_; refine sa ?_; refine so ?_; refine T.blkEnd ?_; refine sr ?_; refine sm ?_; refine sm ?_; refine sv (PV.convRune rfl) ?_; refine sv (PV.sadd rfl rfl (by omega)) ?_; refine sa ?_; refine so ?_; refine T.blkEnd ?_
      rw [← d3]
      exact T.nextP ⟨i + 1, q ++ ⟨#[92]⟩ ++ Utf8.encode (v : Int)⟩ ⟨by dsimp only; omega, quote2 g2 hv hsv (spc_mem.2 (by omega))⟩ (by dsimp only; omega) zq8 (by repeat (first | exact Sel.refl _ | exact Sel.nil | (refine Sel.cons zq1 ?_) | (refine Sel.app zq1 ?_) | exact Sel.one zq1)) rfl
    by_cases hk11 : (v : Int) = 63
    · refine sd rfl (by omega) ?_; refine zs3 ?_; refine sv (PV.eql rfl rfl) ?_; refine sa ?_; refine so ?_; refine sd rfl (by omega) ?_; refine zs3 ?_; refine sv (PV.eql rfl rfl) ?_; refine sa ?_; refine so ?_; refine sd rfl (by omega) ?_; refine zs3 ?_; refine sv (PV.eql rfl rfl) ?_; refine sa ?_; refine so ?_; refine sd rfl (by omega) ?_; refine zs3 ?_; refine sv (PV.eql rfl rfl) ?_; refine sa ?_; refine so ?_; refine sd rfl (by omega) ?_; refine zs3 ?_; refine sv (PV.eql rfl rfl) ?_; refine sa ?_; refine so ?_; refine sd rfl (by omega) ?_; refine zs3 ?_; refine sv (PV.eql rfl rfl) ?_; refine sa ?_; refine so ?_; refine sd rfl (by omega) ?_; refine zs3 ?_; refine sv (PV.eql rfl rfl) ?_; refine sa ?_; refine so ?_; refine sd rfl (by omega) ?_; refine zs3 ?_; refine sv (PV.eql rfl rfl) ?_; refine sa ?_; refine so ?_
      refine sd rfl (by omega) ?_; refine zs3 ?_; refine sv (PV.eql rfl rfl) ?_; refine sa ?_; refine so ?_; refine sd rfl (by omega) ?_; refine zs3 ?_; refine sv (PV.eql rfl rfl) ?_; refine sa ?_; refine so ?_; refine sd rfl (by omega) ?_; refine sr ?_; refine sv (PV.eql rfl rfl) ?_; refine sa ?_; refine so ?_; refine sC rfl (by omega) ?_; refine sr ?_; refine sm ?_; refine sv (PV.sadd rfl rfl (by omega)) ?_; refine sa ?_; refine so ?_; refine T.blkEnd ?_; refine sr ?_; refine sm ?_; refine sm ?_; refine sv (PV.convRune rfl) ?_; refine sv (PV.sadd rfl rfl (by omega)) ?_; refine sa ?_; refine so ?_; refine T.blkEnd ?_
      rw [← d3]
      exact T.nextP ⟨i + 1, q ++ ⟨#[92]⟩ ++ Utf8.encode (v : Int)⟩ ⟨by dsimp only; omega, quote2 g2 hv hsv (spc_mem.2 (by omega))⟩ (by dsimp only; omega) zq8 (by repeat (first | exact Sel.refl _ | exact Sel.nil | (refine Sel.cons zq1 ?_) | (refine Sel.app zq1 ?_) | exact Sel.one zq1)) rfl
    refine sd rfl (by omega) ?_; refine zs3 ?_; refine sv (PV.eql rfl rfl) ?_; refine sa ?_; refine so ?_; refine sd rfl (by omega) ?_; refine zs3 ?_; refine sv (PV.eql rfl rfl) ?_; refine sa ?_; refine so ?_; refine sd rfl (by omega) ?_; refine zs3 ?_; refine sv (PV.eql rfl rfl) ?_; refine sa ?_; refine so ?_; refine sd rfl (by omega) ?_; refine zs3 ?_; refine sv (PV.eql rfl rfl) ?_; refine sa ?_; refine so ?_; refine sd rfl (by omega) ?_; refine zs3 ?_; refine sv (PV.eql rfl rfl) ?_; refine sa ?_; refine so ?_; refine sd rfl (by omega) ?_; refine zs3 ?_; refine sv (PV.eql rfl rfl) ?_; refine sa ?_; refine so ?_; refine sd rfl (by omega) ?_; refine zs3 ?_; refine sv (PV.eql rfl rfl) ?_; refine sa ?_; refine so ?_; refine sd rfl (by omega) ?_; refine zs3 ?_; refine sv (PV.eql rfl rfl) ?_; refine sa ?_; refine so ?_
    refine sd rfl (by omega) ?_; refine zs3 ?_; refine sv (PV.eql rfl rfl) ?_; refine sa ?_; refine so ?_; refine sd rfl (by omega) ?_; refine zs3 ?_; refine sv (PV.eql rfl rfl) ?_; refine sa ?_; refine so ?_; refine sd rfl (by omega) ?_; refine sr ?_; refine sv (PV.eql rfl rfl) ?_; refine sa ?_; refine so ?_; refine sd rfl (by omega) ?_; refine T.skip ?_; refine T.blkEnd ?_; refine sr ?_; refine sm ?_; refine sm ?_; refine sv (PV.convRune rfl) ?_; refine sv (PV.sadd rfl rfl (by omega)) ?_; refine sa ?_; refine so ?_; refine T.blkEnd ?_
    rw [← d3]
    exact T.nextP ⟨i + 1, q ++ Utf8.encode (v : Int)⟩ ⟨by dsimp only; omega, quote1 g2 hv hsv (by rw [Bool.eq_false_iff]; intro h; have := spc_mem.1 h; omega)⟩ (by dsimp only; omega) zq8 (by repeat (first | exact Sel.refl _ | exact Sel.nil | (refine Sel.cons zq1 ?_) | (refine Sel.app zq1 ?_) | exact Sel.one zq1)) rfl
  obtain rfl : i = ws.length := by omega
  have htk : ws.take ws.length = ws := List.take_of_length_le (Nat.le_refl _)
  rw [htk] at g2 ⊢
  have hQ : QText q ws := ⟨g2, q2, by omega, by omega⟩
  obtain ⟨fq, hfq⟩ : ∃ fq, fq = foldS q := ⟨_, rfl⟩
  have hfqz : fq.size = q.size := by rw [hfq, foldS_size]
  have hwf : ∀ w ∈ ws.map lowN, sc w := fun w hw => by
    obtain ⟨x, hx, rfl⟩ := List.mem_map.1 hw
    exact (lowN_eq (q2 x hx)).2
  have hQf : QText fq (ws.map lowN) := ⟨by rw [hfq, foldS_list, g2, fold_encL _ (q_sc q2), q_low _ q2], hwf, by omega, by rw [List.length_map]; omega⟩
  have hfo : ∀ H, Fn Tryz.prog 7 #[.string q] H (fun u _ => u = .string fq) := fun H => by rw [hfq]; exact fold_fn q H (by omega)
  obtain ⟨fs, hfs2⟩ : ∃ fs, fs = foldS s := ⟨_, rfl⟩
  have hfw : encW (ws.map lowN) = fs := ba_ext (by rw [hfs2, foldS_list, ← q1, fold_encL _ q2]; unfold encW; simp)
  have hfo2 : ∀ H, Fn Tryz.prog 7 #[.string s] H (fun u _ => u = .string fs) := fun H => by rw [hfs2]; exact fold_fn s H (by omega)
  have hpa := parse_rx fq (ws.map lowN) H hT hQf
  have hp : s.size ≤ ofs ws := by omega
  have hfo0 := hfo H
  refine zs3 ?_; refine T.nextStrEnd zq22 rfl rfl zq2 (by omega) ?_; refine sv (PV.extract rfl rfl) ?_; refine so ?_; refine sq ?_; refine T.condF rfl rfl ?_; refine T.exit rfl ?_; refine zs3 ?_; refine sm ?_; refine T.callV Wanted.none rfl rfl (hfo0) ?_; refine T.call Wanted.none rfl rfl hpa ?_
  rintro _ H1 hle1 ⟨e, rfl, he⟩
  have hli := literalL_fn e (ws.map lowN) H1 he hwf (by rw [List.length_map]; omega)
  rw [hfw] at hli
  obtain ⟨o, a1, n1, c1, a2, n2, c2, rfl⟩ := he.shape
  have hfo2 := hfo2 H1
  have hdd : decide (fs ≠ fs) = false := decide_eq_false fun h => h rfl
  refine sm ?_; refine sv (PV.extract rfl rfl) ?_; refine sv (PV.extract rfl rfl) ?_; refine sv (PV.extract rfl rfl) ?_; refine sy fun b8 => ?_; refine T.storeA Wanted.none rfl rfl zq8 (by exact rfl) zq14 zq13 ?_; refine sa ?_; refine sa ?_; refine so ?_; refine sq ?_; refine zs3 ?_; refine sm ?_; refine sv (PV.neq rfl rfl) ?_; refine so ?_; refine T.condF rfl rfl ?_; refine T.skip ?_; refine zs3 ?_; refine sv (PV.loadAll rfl zq0 (by exact rfl)) ?_; refine T.callV Wanted.none rfl rfl (hli) ?_; refine sm ?_; refine sv (PV.extract rfl rfl) ?_; refine sv (PV.extract rfl rfl) ?_; refine sa ?_; refine sa ?_; refine so ?_; refine sq ?_; refine zs3 ?_; refine sm ?_; refine sv (PV.not rfl) ?_; refine sm ?_; refine gm ?_; refine gm ?_; refine T.callV (Wanted.guard rfl rfl rfl) rfl rfl (hfo2) ?_; refine gv (PV.sneq rfl rfl) ?_; refine sF ?_; refine so ?_; refine T.condF rfl (by assumption) ?_; refine T.skip ?_; refine zs3 ?_; refine sv (PV.loadAll rfl zq0 (by exact rfl)) ?_
  refine sy fun b13 => ?_; refine T.storeA Wanted.none rfl rfl zq8 (by exact rfl) zq14 zq13 ?_; refine zs1 ?_; refine sf ?_; refine T.store1 Wanted.none rfl rfl rfl zq14 zq13 ?_; refine so ?_; refine sq ?_; refine zs3 ?_; refine sf ?_; refine sl ?_; refine sv (PV.lenSl rfl) ?_; refine sm ?_; refine so ?_; refine T.block ?_
  have htl := hA.lt
  refine T.loopK [(89, Value.int IntKind.i64 (↑c.tk.length : Int)), (88, Value.slice at1 c.tk.length ct), (13, Value.pointer (some { block := b13, off := 0 })), (5, Value.string q), (2, Value.pointer (some { block := b2, off := 0 }))] zq8 (γ := TkG) (fun g => g.i ≤ c.tk.length ∧ H1.le g.H ∧ g.tks.length = g.i ∧ FdT c g.tks ∧ (∀ t ∈ g.tks, TkA g.H t) ∧ RowV 28 encTk 1 g.v g.lv g.tks) (fun g => [(90, .int .i64 (g.i : Int))]) (fun g => g.lv ++ (b13, .cells #[.slice aa c.att.length ca, g.v, .slice ax c.tx.length cx, .slice ar c.rg.length cr, .slice an c.nd.length cn, .slice ah c.hd.length ch, .slice as1 c.rl.length cs] 30 (0, 0)) :: _) (fun g => g.H) (fun g => c.tk.length - g.i) ⟨0, nlS, [], [], H1⟩ ⟨Nat.zero_le _, Hp.le.refl _, rfl, ⟨Nat.zero_le _, fun _ _ h => by simp at h⟩, fun _ h => by simp at h, Vec.nil _ _⟩ zq8 (by repeat (first | exact Sel.refl _ | exact Sel.nil | (refine Sel.cons zq1 ?_) | (refine Sel.app zq1 ?_) | exact Sel.one zq1)) rfl ?_
  rintro ⟨i, v, lv, tks, Hk⟩ ⟨g1, g2, g3, g4, g5, g6⟩
  dsimp only at g1 g2 g3 g4 g5 g6 ⊢
  have htkL := (hA.mono (hle1.trans g2)).t
  rw [e2] at htkL
  have hatL := (hA.mono (hle1.trans g2)).a
  rw [e1] at hatL
  obtain ⟨avD, cvD, rfl⟩ := g6.val
  by_cases hi : i < c.tk.length
  · obtain ⟨b, off, t, rfl, hix, hsub⟩ := RowL.get encTk_len htkL hi
    have hto := (hA.tO t (List.mem_of_getElem? hix)).mono (hle1.trans g2)
    have htn := hg.t t (List.mem_of_getElem? hix)
    have hla := hA.la
    obtain ⟨av, cv, hvv⟩ := hto.1.len
    have hst := hto.1
    rw [hvv] at hst
    unfold encTk at hsub
    rw [hvv] at hsub
    refine zs3 ?_; refine sv (PV.lss rfl rfl) ?_; refine so ?_; refine sq ?_; refine sC rfl (by omega) ?_; refine T.skip ?_; refine sq ?_; refine T.block ?_; refine zs3 ?_; refine sv (PV.indexAddr rfl rfl (by omega)) ?_; refine sv (PV.loadSub0 rfl (by assumption)) ?_; refine sa ?_; refine zs1 ?_; refine sa ?_; refine so ?_; refine sq ?_; refine zs3 ?_; refine sm ?_; refine sv (PV.lenSl rfl) ?_; refine sm ?_; refine so ?_; refine T.block ?_; refine T.loopK [(95, Value.int IntKind.i64 (↑t.ss.length : Int)), (94, Value.slice av t.ss.length cv), (90, Value.int IntKind.i64 (↑i : Int)), (89, Value.int IntKind.i64 (↑c.tk.length : Int)), (88, Value.slice (some { block := b, off := off }) c.tk.length ct), (13, Value.pointer (some { block := b13, off := 0 })), (5, Value.string q), (2, Value.pointer (some { block := b2, off := 0 }))] zq8 (γ := InG) (fun g => g.i ≤ t.ss.length ∧ RowV 9 encT 1 g.v g.lv (fdL c.att (t.ss.take g.i))) (fun g => [(96, .int .i64 (g.i : Int)), (16, g.v)]) (fun g => g.lv ++ _) (fun _ => Hk) (fun g => t.ss.length - g.i) ⟨0, nlS, []⟩ ⟨Nat.zero_le _, Vec.nil _ _⟩ zq8 (by repeat (first | exact Sel.refl _ | exact Sel.nil | (refine Sel.cons zq1 ?_) | (refine Sel.app zq1 ?_) | exact Sel.one zq1)) rfl ?_
    rintro ⟨a, vI, lvI⟩ ⟨k1, k2⟩
    dsimp only at k1 k2 ⊢
    obtain ⟨avI, cvI, rfl⟩ := k2.val
    have hfl := fdL_len c.att (t.ss.take a)
    rw [List.length_take] at hfl
    by_cases ha : a < t.ss.length
    · obtain ⟨b1, off1, x, rfl, hx1, hsub1⟩ := RowL.get encT_len hst ha
      obtain ⟨b2', off2, ⟨nm, st⟩, rfl, hx2, hsub2⟩ := RowL.get encAt_len hatL (i := a) (by omega)
      unfold encT at hsub1
      unfold encAt at hsub2
      have hxv := hg.v t (List.mem_of_getElem? hix) x (List.mem_of_getElem? hx1)
      have hfx : Fn Tryz.prog 7 #[.string x] Hk (fun u _ => u = .string (foldS x)) := fold_fn x Hk (by have := hxv.1; omega)
      have htk1 := fdL_take (att := c.att) hx1
      cases st
      · have hfd : fdV c.att a x = foldS x := by unfold fdV; rw [hx2]; simp
        rw [hfd] at htk1
        refine zs3 ?_; refine sv (PV.lss rfl rfl) ?_; refine so ?_; refine sq ?_; refine sC rfl (by omega) ?_; refine T.skip ?_; refine sq ?_; refine T.block ?_; refine zs3 ?_; refine sm ?_; refine sv (PV.indexAddr rfl rfl (by omega)) ?_; refine sv (PV.loadSub0 rfl (by assumption)) ?_; refine sa ?_; refine sa ?_; refine so ?_; refine sq ?_; refine zs3 ?_; refine sf ?_; refine sl ?_; refine sm ?_; refine sv (PV.indexAddr rfl rfl (by omega)) ?_; refine sf ?_; refine sv (PV.loadSub rfl (by assumption) rfl) ?_; refine sv (PV.not rfl) ?_; refine so ?_; refine T.condT rfl rfl ?_; refine sr ?_; refine sm ?_; refine T.callV Wanted.none rfl rfl (hfx) ?_; refine sa ?_; refine zs2 ?_; refine sm ?_; refine sm ?_; (refine T.buildSlice Wanted.none rfl rfl zq11 (by exact rfl) (by exact rfl) ?_; intro b112); (refine T.appendP (lv := lvI) Wanted.none rfl rfl rfl k2 (Src.cells (m := 1) (ys := encT _) (.own zq2) rfl rfl) (one_encT _) (by omega) zq1 ?_; intro v113 lv113 hv113 _); refine sa ?_; refine so ?_; refine T.blkEnd ?_; refine sr ?_; refine sv (PV.add rfl rfl (by omega)) ?_
        refine sm ?_; refine so ?_
        exact T.nextP ⟨a + 1, _, lv113⟩ ⟨by dsimp only; omega, by rw [htk1]; exact RowV.snoc hv113⟩ (by dsimp only; omega) zq8 (by repeat (first | exact Sel.refl _ | exact Sel.nil | (refine Sel.cons zq1 ?_) | (refine Sel.app zq1 ?_) | exact Sel.one zq1)) rfl
      · have hfd : fdV c.att a x = x := by unfold fdV; rw [hx2]; simp
        rw [hfd] at htk1
        refine zs3 ?_; refine sv (PV.lss rfl rfl) ?_; refine so ?_; refine sq ?_; refine sC rfl (by omega) ?_; refine T.skip ?_; refine sq ?_; refine T.block ?_; refine zs3 ?_; refine sm ?_; refine sv (PV.indexAddr rfl rfl (by omega)) ?_; refine sv (PV.loadSub0 rfl (by assumption)) ?_; refine sa ?_; refine sa ?_; refine so ?_; refine sq ?_; refine zs3 ?_; refine sf ?_; refine sl ?_; refine sm ?_; refine sv (PV.indexAddr rfl rfl (by omega)) ?_; refine sf ?_; refine sv (PV.loadSub rfl (by assumption) rfl) ?_; refine sv (PV.not rfl) ?_; refine so ?_; refine T.condF rfl rfl ?_; refine T.skip ?_; refine sr ?_; refine sm ?_; refine sm ?_; (refine T.buildSlice Wanted.none rfl rfl zq11 (by exact rfl) (by exact rfl) ?_; intro b112); (refine T.appendP (lv := lvI) Wanted.none rfl rfl rfl k2 (Src.cells (m := 1) (ys := encT _) (.own zq2) rfl rfl) (one_encT _) (by omega) zq1 ?_; intro v113 lv113 hv113 _); refine sa ?_; refine so ?_; refine T.blkEnd ?_; refine sr ?_; refine sv (PV.add rfl rfl (by omega)) ?_; refine sm ?_; refine so ?_
        exact T.nextP ⟨a + 1, _, lv113⟩ ⟨by dsimp only; omega, by rw [htk1]; exact RowV.snoc hv113⟩ (by dsimp only; omega) zq8 (by repeat (first | exact Sel.refl _ | exact Sel.nil | (refine Sel.cons zq1 ?_) | (refine Sel.app zq1 ?_) | exact Sel.one zq1)) rfl
    · obtain rfl : a = t.ss.length := by omega
      rw [List.take_of_length_le (Nat.le_refl _)] at k2 hfl
      rw [List.take_of_length_le (Nat.le_refl _)]
      refine zs3 ?_; refine sv (PV.lss rfl rfl) ?_; refine so ?_; refine sq ?_; refine sd rfl (by omega) ?_; refine T.exit rfl ?_; refine sr ?_; refine sf ?_; refine sl ?_; refine sm ?_; (refine T.buildSlice Wanted.none rfl rfl zq11 (by exact rfl) (by exact rfl) ?_; intro b118); refine T.freezeP (lv := lvI) k2 zq1 ?_
      intro Ha hla2 hsa
      have htsn : TkA Ha ⟨.slice avI (fdL c.att t.ss).length cvI, fdL c.att t.ss⟩ := ⟨hsa, by dsimp only; omega⟩
      (refine T.appendP (lv := lv) Wanted.none rfl rfl rfl g6 (Src.cells (m := 1) (ys := [.slice avI (fdL c.att t.ss).length cvI]) (.own zq2) rfl rfl) (by intro v hv; rw [List.mem_singleton] at hv; subst hv; rfl) (by omega) zq1 ?_; intro v119 lv119 hv119 _; obtain ⟨ad119, cap119, rfl⟩ := hv119.val); refine sf ?_; refine T.store1 Wanted.none rfl rfl rfl zq14 zq13 ?_; refine so ?_; refine T.blkEnd ?_; refine sr ?_; refine sv (PV.add rfl rfl (by omega)) ?_; refine sm ?_; refine so ?_
      have hsn : RowV 28 encTk 1 (.slice ad119 (tks.length + 1) cap119) lv119 (tks ++ [(⟨.slice avI (fdL c.att t.ss).length cvI, fdL c.att t.ss⟩ : Tk)]) := RowV.snoc hv119
      refine T.nextP ⟨i + 1, .slice ad119 (tks.length + 1) cap119, lv119, tks ++ [⟨.slice avI (fdL c.att t.ss).length cvI, fdL c.att t.ss⟩], Ha⟩ ⟨by dsimp only; omega, g2.trans hla2, by dsimp only; rw [List.length_append, g3]; rfl, g4.snoc (t := t) (by rw [g3]; exact hix) rfl, fun t' ht' => ?_, hsn⟩ (by dsimp only; omega) zq8 (by repeat (first | exact Sel.refl _ | exact Sel.nil | (refine Sel.cons zq1 ?_) | (refine Sel.app zq1 ?_) | exact Sel.one zq1)) rfl
      rcases List.mem_append.1 ht' with h | h
      · exact (g5 t' h).mono hla2
      · rw [List.mem_singleton] at h; subst h; exact htsn
  obtain rfl : i = c.tk.length := by omega
  refine zs3 ?_; refine sv (PV.lss rfl rfl) ?_; refine so ?_; refine sq ?_; refine sd rfl (by omega) ?_; refine T.exit rfl ?_; refine sq ?_; refine zs3 ?_; refine sf ?_; refine sl ?_; refine sv (PV.lenSl rfl) ?_; refine sm ?_; refine so ?_; refine T.block ?_; refine T.freezeP (lv := lv) g6 zq1 ?_
  intro Ha hla2 hsa
  have hle := (hle1.trans g2).trans hla2
  have hA2 := hA.mono hle
  have hAd : CpA Ha (fdC c (.slice avD tks.length cvD) tks) := ⟨hA2.a, hsa, hA2.x, hA2.r, hA2.n, hA2.h, hA2.s, fun t ht => (g5 t ht).mono hla2, hA2.la, by show tks.length ≤ 1000; omega, hA2.lx, hA2.lr, hA2.ln, hA2.lh, hA2.ls⟩
  have hgd := fd_good (v := .slice avD tks.length cvD) hg g4 g3
  have hcvd : cpV (fdC c (.slice avD tks.length cvD) tks) = .agg #[.slice aa c.att.length ca, .slice avD tks.length cvD, .slice ax c.tx.length cx, .slice ar c.rg.length cr, .slice an c.nd.length cn, .slice ah c.hd.length ch, .slice as1 c.rl.length cs] := by
    unfold cpV fdC; dsimp only; rw [e1, e3, e4, e5, e6, e7]
  have hT2 := hT.mono hle
  have haw2 := haw Ha
  have hatL := hA2.a
  rw [e1] at hatL
  have hla := hA.la
  have htl2 := hA.lt
  refine T.loopR [(124, Value.int IntKind.i64 (↑c.att.length : Int)), (123, Value.slice aa c.att.length ca), (13, Value.pointer (some { block := b13, off := 0 })), (5, Value.string q), (2, Value.pointer (some { block := b2, off := 0 }))] zq8 125 c.att.length rfl ?_
  intro a ha0
  by_cases ha : a < c.att.length
  · obtain ⟨b1, off1, ⟨nm, st⟩, rfl, hx2, hsub2⟩ := RowL.get encAt_len hatL ha
    unfold encAt at hsub2
    cases st
    · have hnm := hg.e _ (List.mem_of_getElem? hx2)
      have hs1 := selectV_fn c a nm q ws true false Ha hT2 hQ hA2 hg (atOk_of hg.d hx2) hnm
      rw [hcv] at hs1
      refine zs3 ?_; refine sv (PV.lss rfl rfl) ?_; refine so ?_; refine sq ?_; refine sC rfl (by omega) ?_; refine T.skip ?_; refine sq ?_; refine T.block ?_; refine zs3 ?_; refine sv (PV.indexAddr rfl rfl (by omega)) ?_; refine sv (PV.loadSubAll rfl (by assumption) (by exact rfl)) ?_; refine sy fun b20 => ?_; refine T.storeA Wanted.none rfl rfl zq8 (by exact rfl) zq14 zq13 ?_; refine so ?_; refine sq ?_; refine zs3 ?_; refine sf ?_; refine sl ?_; refine so ?_; refine T.condF rfl rfl ?_; refine T.skip ?_; refine zs3 ?_; refine sv (PV.loadAll rfl zq0 (by exact rfl)) ?_; refine sf ?_; refine sl ?_; refine sm ?_; refine sv (PV.build rfl zq12) ?_; refine T.call Wanted.none rfl rfl hs1 ?_
      rintro _ H3 hH3 ⟨v3, rfl, hl3⟩
      obtain ⟨a3, c3, rfl⟩ := hl3.len
      have hfo3 := hfo H3
      have hs2 := selectV_fn (fdC c (.slice avD tks.length cvD) tks) a nm fq (ws.map lowN) false false H3 (hT2.mono hH3) hQf (hAd.mono hH3) hgd (atOk_of (l := (fdC c (.slice avD tks.length cvD) tks).att) hgd.d hx2) hnm
      rw [hcvd, fd_mat hg g4 g3 hx2] at hs2
      refine sm ?_; refine sv (PV.extract rfl rfl) ?_; refine sv (PV.extract rfl rfl) ?_; refine sa ?_; refine sa ?_; refine so ?_; refine sq ?_; refine T.regionO [(b20, .cells #[.string nm, .bool false] 44 (0, 0)), (b13, .cells #[.slice (some ⟨b1, off1, none⟩) c.att.length ca, .slice avD tks.length cvD, .slice ax c.tx.length cx, .slice ar c.rg.length cr, .slice an c.nd.length cn, .slice ah c.hd.length ch, .slice as1 c.rl.length cs] 30 (0, 0))] (by kernel_rfl) ?_; refine TO.take 0 rfl (by kernel_rfl) (by kernel_rfl) (by kernel_rfl) (PV.loadAll rfl zq0 (by exact rfl)) Wanted.none rfl rfl ?_; refine TO.take 1 rfl (by kernel_rfl) (by kernel_rfl) (by kernel_rfl) (PV.fieldAddr rfl) Wanted.none rfl rfl ?_; refine TO.take 2 rfl (by kernel_rfl) (by kernel_rfl) (by kernel_rfl) (PV.load1 rfl zq0 rfl) Wanted.none rfl rfl ?_; refine TO.take 3 rfl (by kernel_rfl) (by kernel_rfl) (by kernel_rfl) (PV.move rfl) Wanted.none rfl rfl ?_; refine TO.step 4 rfl (by kernel_rfl) zq4 zq19 ?_; (refine T.callX Wanted.none rfl rfl hfo3 ?_; rintro _ rfl); refine so ?_; refine TO.back ?_; refine TO.take 5 rfl (by kernel_rfl) (by kernel_rfl) (by kernel_rfl) (PV.build rfl zq12) Wanted.none rfl rfl ?_; refine TO.step 6 rfl (by kernel_rfl) zq4 zq19 ?_; (refine T.call Wanted.none rfl rfl hs2 ?_; rintro _ H4 hH4 ⟨v4, rfl, hl4⟩; obtain ⟨a4, c4, rfl⟩ := hl4.len); refine so ?_; refine TO.back ?_; refine TO.take 7 rfl (by kernel_rfl) (by kernel_rfl) (by kernel_rfl) (PV.move rfl) Wanted.none rfl rfl ?_; refine TO.take 8 rfl (by kernel_rfl) (by kernel_rfl) (by kernel_rfl) (PV.extract rfl rfl) Wanted.none rfl rfl ?_; refine TO.take 9 rfl (by kernel_rfl) (by kernel_rfl) (by kernel_rfl) (PV.extract rfl rfl) Wanted.none rfl rfl ?_; refine TO.take 10 rfl (by kernel_rfl) (by kernel_rfl) (by kernel_rfl) (PV.assign rfl) Wanted.none rfl rfl ?_; refine TO.take 11 rfl (by kernel_rfl) (by kernel_rfl) (by kernel_rfl) (PV.assign rfl) Wanted.none rfl rfl ?_; refine TO.done (by kernel_rfl) zq4 zq19 ?_
      have hsl := selG_len (matG c true ws a) c.tk.length
      have hsame := sameIA_fn _ _ _ H4 (show InL H4 _ _ from SlR.mono hl3 hH4) hl4 (by omega)
      refine zs3 ?_; refine sm ?_; refine sv (PV.neq rfl rfl) ?_; refine sm ?_; refine gm ?_; refine gv (PV.neq rfl rfl) ?_; refine sF ?_; refine sm ?_; refine gm ?_; refine gm ?_; refine T.callV (Wanted.guard rfl rfl rfl) rfl rfl (hsame) ?_; refine gv (PV.not rfl) ?_; refine sF ?_; refine so ?_; refine T.condF rfl rfl ?_; refine T.skip ?_; refine T.blkEnd ?_; refine sr ?_; refine sv (PV.add rfl rfl (by omega)) ?_; refine sm ?_; refine so ?_
      refine T.forget (hH3.trans hH4) ?_ hle
      exact T.nextR ha rfl zq8 (by repeat (first | exact Sel.refl _ | exact Sel.nil | (refine Sel.cons zq1 ?_) | (refine Sel.app zq1 ?_) | exact Sel.one zq1))
    · refine zs3 ?_; refine sv (PV.lss rfl rfl) ?_; refine so ?_; refine sq ?_; refine sC rfl (by omega) ?_; refine T.skip ?_; refine sq ?_; refine T.block ?_; refine zs3 ?_; refine sv (PV.indexAddr rfl rfl (by omega)) ?_; refine sv (PV.loadSubAll rfl (by assumption) (by exact rfl)) ?_; refine sy fun b20 => ?_; refine T.storeA Wanted.none rfl rfl zq8 (by exact rfl) zq14 zq13 ?_; refine so ?_; refine sq ?_; refine zs3 ?_; refine sf ?_; refine sl ?_; refine so ?_; refine T.condT rfl rfl ?_; refine T.exit rfl ?_; refine sr ?_; refine sv (PV.add rfl rfl (by omega)) ?_; refine sm ?_; refine so ?_
      exact T.nextR ha rfl zq8 (by repeat (first | exact Sel.refl _ | exact Sel.nil | (refine Sel.cons zq1 ?_) | (refine Sel.app zq1 ?_) | exact Sel.one zq1))
  · refine zs3 ?_; refine sv (PV.lss rfl rfl) ?_; refine so ?_; refine sq ?_; refine sd rfl (by omega) ?_; refine T.exit rfl ?_; refine zs3 ?_; refine T.callV Wanted.none rfl rfl (haw2) ?_; refine sa ?_; refine so ?_
    exact T.retF (Lv.fin (RV.tmp rfl rfl) rfl)
end Go.Proofs.YtpjdhokpfccahaaGreatDoor
