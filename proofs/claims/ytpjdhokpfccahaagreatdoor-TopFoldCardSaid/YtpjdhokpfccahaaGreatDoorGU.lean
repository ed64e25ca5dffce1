/- expressions that stand for a text: their text.
   expressions that stand for a text, read: Parse. -/
import Derived.Test.YtpjdhokpfccahaaGreatDoorGT
namespace Go.Proofs.YtpjdhokpfccahaaGreatDoor
open Go.RowKit

theorem surrogate_fn (w : Nat) (H : Hp) (hw : sc w) : Fn Tryz.prog 37 #[.int .i32 (w : Int)] H (fun u _ => u = .bool false) := by
  obtain ⟨h1, h2⟩ := hw
  refine Fn.of_T (vs := [.int .i32 (w : Int)]) Tryz.func37 rfl rfl fun _ => ?_
  by_cases h : w < 55296
  · refine zs3 ?_; refine sa ?_; refine zs1 ?_; refine sm ?_; refine sv (PV.geq rfl rfl) ?_; refine sm ?_; refine T.setF (d := 5) rfl (by omega) ?_; refine sp ?_; refine sp ?_; refine sF ?_; refine sa ?_; refine so ?_
    exact T.retF (Lv.fin (RV.tmp rfl rfl) rfl)
  · refine zs3 ?_; refine sa ?_; refine zs1 ?_; refine sm ?_; refine sv (PV.geq rfl rfl) ?_; refine sm ?_; refine T.setT (d := 5) rfl (by omega) ?_; refine gm ?_; refine gv (PV.leq rfl rfl) ?_; refine sT ?_; refine sa ?_; refine so ?_
    exact T.retF (Lv.fin (RV.tmp rfl rfl) (by rw [decide_eq_false (by omega)]))
set_option maxRecDepth 100000 in
set_option maxHeartbeats 1000000 in
theorem literal1_fn (k w n : Nat) (v : Value) (lv : List (Nat × Obj)) (bs : List UInt8) (H : Hp) (h : RgS H k w) (hw : sc w) (hv : Vec 5 1 v lv bs.length (bytesV bs)) (hb : bs.length ≤ 1000) :
    FnW Tryz.prog 21 #[rxV 1 (rg1 k) nlS, v] H lv (fun u H' l' => ∃ v', u = .tuple #[v', .bool true] ∧ H' = H ∧ Vec 5 1 v' l' (bs ++ encB w).length (bytesV (bs ++ encB w))) := by
  have hs := h.open
  have hsu := surrogate_fn w H hw
  obtain ⟨E, hE⟩ : ∃ E, Utf8.encode (w : Int) = E := ⟨_, rfl⟩
  have hen := encode_B hw
  rw [hE] at hen
  have hlen := encB_len w
  have hl := size_list E
  have hsz : E.size ≤ 4 := by rw [← hl, hen]; omega
  obtain ⟨ad, cap, rfl⟩ := hv.val
  have hE' : True → Utf8.encode (w : Int) = E := fun _ => hE
  clear hE
  refine FnW.of_T (vs := [rxV 1 (rg1 k) nlS, .slice ad bs.length cap]) Tryz.func21 rfl rfl fun _ => ?_; refine zs3 ?_; (refine T.box Wanted.none rfl rfl zq15 ?_; intro b2); refine sa ?_; refine sa ?_; refine so ?_; refine sq ?_; refine T.block ?_; refine sq ?_; refine T.regionQ (by kernel_rfl) ?_; refine TQ.pv (PV.fieldAddr rfl) Wanted.none rfl rfl ?_; refine TQ.pv (PV.load1 rfl zq0 rfl) Wanted.none rfl rfl ?_; refine TQ.pv (PV.eql rfl rfl) Wanted.none rfl rfl ?_; refine TQ.pv (PV.move rfl) Wanted.none rfl rfl ?_; refine TQ.pv (PV.fieldAddr rfl) (Wanted.guard rfl rfl rfl) rfl rfl ?_; refine TQ.pv (PV.load1 rfl zq0 rfl) (Wanted.guard rfl rfl rfl) rfl rfl ?_; refine TQ.pv (PV.lenSl rfl) (Wanted.guard rfl rfl rfl) rfl rfl ?_; refine TQ.pv (PV.eql rfl rfl) (Wanted.guard rfl rfl rfl) rfl rfl ?_; refine TQ.pv (PV.pickT rfl rfl rfl) Wanted.none rfl rfl ?_; refine TQ.pv (PV.move rfl) Wanted.none rfl rfl ?_; refine TQ.pv (PV.fieldAddr rfl) (Wanted.guard rfl rfl rfl) rfl rfl ?_; refine TQ.pv (PV.load1 rfl zq0 rfl) (Wanted.guard rfl rfl rfl) rfl rfl ?_; refine TQ.pv (PV.indexAddr rfl rfl (by omega)) (Wanted.guard rfl rfl rfl) rfl rfl ?_; refine TQ.pv (PV.fieldAddr rfl) (Wanted.guard rfl rfl rfl) rfl rfl ?_; refine TQ.pv (PV.loadSub rfl (by assumption) rfl) (Wanted.guard rfl rfl rfl) rfl rfl ?_; refine TQ.pv (PV.fieldAddr rfl) (Wanted.guard rfl rfl rfl) rfl rfl ?_; refine TQ.pv (PV.load1 rfl zq0 rfl) (Wanted.guard rfl rfl rfl) rfl rfl ?_; refine TQ.pv (PV.indexAddr rfl rfl (by omega)) (Wanted.guard rfl rfl rfl) rfl rfl ?_; refine TQ.pv (PV.fieldAddr rfl) (Wanted.guard rfl rfl rfl) rfl rfl ?_; refine TQ.pv (PV.loadSub rfl (by assumption) rfl) (Wanted.guard rfl rfl rfl) rfl rfl ?_; refine TQ.pv (PV.eql rfl rfl) (Wanted.guard rfl rfl rfl) rfl rfl ?_; refine TQ.pv (PV.pickT rfl rfl rfl) Wanted.none rfl rfl ?_; refine TQ.pv (PV.move rfl) Wanted.none rfl rfl ?_; refine TQ.setT (d := 32) rfl (by omega) ?_; refine TQ.pv (PV.fieldAddr rfl) (Wanted.guard rfl rfl rfl) rfl rfl ?_; refine TQ.pv (PV.load1 rfl zq0 rfl) (Wanted.guard rfl rfl rfl) rfl rfl ?_; refine TQ.pv (PV.indexAddr rfl rfl (by omega)) (Wanted.guard rfl rfl rfl) rfl rfl ?_; refine TQ.pv (PV.fieldAddr rfl) (Wanted.guard rfl rfl rfl) rfl rfl ?_; refine TQ.pv (PV.loadSub rfl (by assumption) rfl) (Wanted.guard rfl rfl rfl) rfl rfl ?_; refine TQ.callV (Wanted.guard rfl rfl rfl) rfl rfl (hsu) ?_
  refine TQ.pv (PV.not rfl) (Wanted.guard rfl rfl rfl) rfl rfl ?_; refine TQ.pv (PV.pickT rfl rfl rfl) Wanted.none rfl rfl ?_; refine TQ.pv (PV.assign rfl) Wanted.none rfl rfl ?_; refine TQ.nil ?_; refine T.condT rfl rfl ?_; refine zs3 ?_; refine sm ?_; refine sf ?_; refine sl ?_; refine sv (PV.indexAddr rfl rfl (by omega)) ?_; refine sf ?_; refine sv (PV.loadSub rfl (by assumption) rfl) ?_; refine sv (PV.convRune rfl) ?_
  rw [hE' trivial]
  refine T.appendP (lv := lv) Wanted.none rfl rfl rfl hv Src.str (one_bytesV _) (by omega) zq1 ?_
  intro v' lv' hv' _
  obtain ⟨ad', cap', rfl⟩ := hv'.val
  refine sa ?_; refine sa ?_; refine so ?_
  refine T.retW (Lv.finW lv' zq4 (RV.tmp2 rfl rfl rfl) ⟨_, rfl, rfl, ?_⟩)
  rw [bytesV_append, List.length_append, ← hen, hl]
  exact hv'
structure LtG where
  i : Nat
  v : Value
  lv : List (Nat × Obj)
theorem encL_take {ws : List Nat} {i w : Nat} (h : ws[i]? = some w) : encL (ws.take (i + 1)) = encL (ws.take i) ++ encB w := by
  unfold encL
  rw [List.take_add_one, h, List.flatMap_append]
  simp
theorem encL_len : ∀ ws : List Nat, (encL ws).length ≤ 4 * ws.length
  | [] => Nat.le_refl _
  | w :: ws => by
    have h1 := encL_len ws
    have h2 := encB_len w
    have : (encL (w :: ws)).length = (encB w).length + (encL ws).length := by unfold encL; rw [List.flatMap_cons, List.length_append]
    rw [this, List.length_cons]
    omega
set_option maxHeartbeats 2000000 in
theorem literal_fn (e : Value) (ws : List Nat) (H : Hp) (he : LitR H e ws) (hws : ∀ w ∈ ws, sc w) (hl : ws.length ≤ 100) :
    FnW Tryz.prog 21 #[e, nlS] H [] (fun u H' l' => ∃ v', u = .tuple #[v', .bool true] ∧ H' = H ∧ Vec 5 1 v' l' (encL ws).length (bytesV (encL ws))) := by
  cases he with
  | @one k w hk =>
    have := literal1_fn k w 0 nlS [] [] H hk (hws w List.mem_cons_self) (Vec.nil _ _) (by simp)
    rw [show encL [w] = [] ++ encB w by unfold encL; simp]
    exact this
  | @cat ad cap ks _ c1 c2 c3 c4 =>
    have ht0 : ws.take ws.length = ws := List.take_of_length_le (Nat.le_refl _)
    refine FnW.of_T (vs := [rxV 2 nlS (.slice ad ks.length cap), nlS]) Tryz.func21 rfl rfl fun _ => ?_; refine zs3 ?_; (refine T.box Wanted.none rfl rfl zq15 ?_; intro b2); refine sa ?_; refine sa ?_; refine so ?_; refine sq ?_; refine T.block ?_; refine sq ?_; refine T.regionQ (by kernel_rfl) ?_; refine TQ.pv (PV.fieldAddr rfl) Wanted.none rfl rfl ?_; refine TQ.pv (PV.load1 rfl zq0 rfl) Wanted.none rfl rfl ?_; refine TQ.pv (PV.eql rfl rfl) Wanted.none rfl rfl ?_; refine TQ.pv (PV.move rfl) Wanted.none rfl rfl ?_; refine TQ.pass (Unwanted.guard rfl rfl rfl) rfl rfl ?_; refine TQ.pass (Unwanted.guard rfl rfl rfl) rfl rfl ?_; refine TQ.pass (Unwanted.guard rfl rfl rfl) rfl rfl ?_; refine TQ.pass (Unwanted.guard rfl rfl rfl) rfl rfl ?_; refine TQ.pv (PV.pickF rfl rfl rfl) Wanted.none rfl rfl ?_; refine TQ.pv (PV.move rfl) Wanted.none rfl rfl ?_; refine TQ.pass (Unwanted.guard rfl rfl rfl) rfl rfl ?_; refine TQ.pass (Unwanted.guard rfl rfl rfl) rfl rfl ?_; refine TQ.pass (Unwanted.guard rfl rfl rfl) rfl rfl ?_; refine TQ.pass (Unwanted.guard rfl rfl rfl) rfl rfl ?_; refine TQ.pass (Unwanted.guard rfl rfl rfl) rfl rfl ?_; refine TQ.pass (Unwanted.guard rfl rfl rfl) rfl rfl ?_; refine TQ.pass (Unwanted.guard rfl rfl rfl) rfl rfl ?_; refine TQ.pass (Unwanted.guard rfl rfl rfl) rfl rfl ?_; refine TQ.pass (Unwanted.guard rfl rfl rfl) rfl rfl ?_; refine TQ.pass (Unwanted.guard rfl rfl rfl) rfl rfl ?_; refine TQ.pass (Unwanted.guard rfl rfl rfl) rfl rfl ?_; refine TQ.pv (PV.pickF rfl rfl rfl) Wanted.none rfl rfl ?_; refine TQ.pv (PV.move rfl) Wanted.none rfl rfl ?_; refine TQ.pass (Unwanted.guard rfl rfl rfl) rfl rfl ?_; refine TQ.pass (Unwanted.guard rfl rfl rfl) rfl rfl ?_; refine TQ.pass (Unwanted.guard rfl rfl rfl) rfl rfl ?_; refine TQ.pass (Unwanted.guard rfl rfl rfl) rfl rfl ?_; refine TQ.pass (Unwanted.guard rfl rfl rfl) rfl rfl ?_; refine TQ.pass (Unwanted.guard rfl rfl rfl) rfl rfl ?_; refine TQ.pass (Unwanted.guard rfl rfl rfl) rfl rfl ?_
    refine TQ.pv (PV.pickF rfl rfl rfl) Wanted.none rfl rfl ?_; refine TQ.pv (PV.assign rfl) Wanted.none rfl rfl ?_; refine TQ.nil ?_; refine T.condF rfl rfl ?_; refine zs3 ?_; refine sf ?_; refine sl ?_; refine sv (PV.neq rfl rfl) ?_; refine sa ?_; refine so ?_; refine T.condF rfl rfl ?_; refine T.skip ?_; refine T.blkEnd ?_; refine zs3 ?_; refine sa ?_; refine so ?_; refine sq ?_; refine zs3 ?_; refine sf ?_; refine sl ?_; refine sv (PV.lenSl rfl) ?_; refine sm ?_; refine so ?_; refine T.block ?_; refine T.loopK [(55, Value.int IntKind.i64 (↑ks.length : Int)), (54, Value.slice ad ks.length cap)] zq8 (γ := LtG) (fun g => g.i ≤ ks.length ∧ Vec 5 1 g.v g.lv (encL (ws.take g.i)).length (bytesV (encL (ws.take g.i)))) (fun g => [(56, .int .i64 (g.i : Int)), (1, g.v)]) (fun g => g.lv) (fun _ => H) (fun g => ks.length - g.i) ⟨0, nlS, []⟩ ⟨Nat.zero_le _, Vec.nil _ _⟩ zq8 (by repeat (first | exact Sel.refl _ | exact Sel.nil | (refine Sel.cons zq1 ?_) | (refine Sel.app zq1 ?_) | exact Sel.one zq1)) rfl ?_
    rintro ⟨i, v, lv⟩ ⟨g1, g2⟩
    dsimp only at g1 g2 ⊢
    obtain ⟨av, cv, rfl⟩ := g2.val
    by_cases hi : i < ks.length
    · obtain ⟨bx, off, k, rfl, hix, hsub⟩ := RowL.get encRx_len c3 hi
      unfold encRx at hsub
      obtain ⟨w, hw, hr⟩ := ks_at c2 c4 hix
      have hlen := encL_len (ws.take i)
      rw [List.length_take] at hlen
      have hli := literal1_fn k w 0 _ lv _ H hr (hws w (List.mem_of_getElem? hw)) g2 (by omega)
      rw [← encL_take hw] at hli
      refine zs3 ?_; refine sv (PV.lss rfl rfl) ?_; refine so ?_; refine sq ?_; refine sC rfl (by omega) ?_; refine T.skip ?_; refine sq ?_; refine T.block ?_; refine zs3 ?_; refine sv (PV.indexAddr rfl rfl (by omega)) ?_; refine sv (PV.loadSubAll rfl (by assumption) (by exact rfl)) ?_; refine sy fun b8 => ?_; refine T.storeA Wanted.none rfl rfl zq8 (by exact rfl) zq14 zq13 ?_; refine zs1 ?_; refine sv (PV.loadAll rfl zq0 (by exact rfl)) ?_; refine sm ?_; refine T.callW Wanted.none rfl rfl hli zq1 ?_
      rintro _ _ l1 hle ⟨v', rfl, rfl, hv'⟩
      obtain ⟨av', cv', rfl⟩ := hv'.val
      refine sm ?_; refine sv (PV.extract rfl rfl) ?_; refine sv (PV.extract rfl rfl) ?_; refine sa ?_; refine sa ?_; refine zs1 ?_; refine sm ?_; refine sv (PV.not rfl) ?_; refine so ?_; refine T.condF rfl rfl ?_; refine T.skip ?_; refine T.blkEnd ?_; refine sr ?_; refine sv (PV.add rfl rfl (by omega)) ?_; refine sm ?_; refine so ?_
      exact T.nextP ⟨i + 1, _, l1⟩ ⟨by dsimp only; omega, hv'⟩ (by dsimp only; omega) zq8 (by repeat (first | exact Sel.refl _ | exact Sel.nil | (refine Sel.cons zq1 ?_) | (refine Sel.app zq1 ?_) | exact Sel.one zq1)) rfl
    · obtain rfl : i = ks.length := by omega
      rw [c2, ht0] at g2
      rw [c2, ht0]
      refine zs3 ?_; refine sv (PV.lss rfl rfl) ?_; refine so ?_; refine sq ?_; refine sd rfl (by omega) ?_; refine T.exit rfl ?_; refine zs3 ?_; refine sm ?_; refine sa ?_; refine sa ?_; refine so ?_
      exact T.retW (Lv.finW lv zq4 (RV.tmp2 rfl rfl rfl) ⟨_, rfl, rfl, g2⟩)
def encW (ws : List Nat) : ByteArray := ⟨(encL ws).toArray⟩
set_option maxHeartbeats 1000000 in
theorem literalL_fn (e : Value) (ws : List Nat) (H : Hp) (he : LitR H e ws) (hws : ∀ w ∈ ws, sc w) (hl : ws.length ≤ 60) : Fn Tryz.prog 8 #[e] H (fun u _ => u = .tuple #[.string (encW ws), .bool true]) := by
  have hva := validate_rx e ws H he hws hl
  have hli := literal_fn e ws H he hws (by omega)
  cases he with
  | @one k w hk =>
    refine Fn.of_T (vs := [rxV 1 (rg1 k) nlS]) Tryz.func8 rfl rfl fun _ => ?_; refine zs3 ?_; (refine T.box Wanted.none rfl rfl zq15 ?_; intro b1); refine sa ?_; refine sa ?_; refine so ?_; refine sq ?_; refine zs3 ?_; refine sv (PV.loadAll rfl zq0 (by exact rfl)) ?_; refine T.callV Wanted.none rfl rfl (hva) ?_; refine sv (PV.neq rfl rfl) ?_; refine so ?_; refine T.condF rfl rfl ?_; refine T.skip ?_; refine zs3 ?_; refine sv (PV.loadAll rfl zq0 (by exact rfl)) ?_; refine T.callW Wanted.none rfl rfl hli Pick.nil ?_
    rintro _ _ l1 hle ⟨v', rfl, rfl, hv'⟩
    obtain ⟨av', cv', rfl⟩ := hv'.val
    refine sm ?_; refine sv (PV.extract rfl rfl) ?_; refine sv (PV.extract rfl rfl) ?_; refine sa ?_; refine sa ?_; refine zs1 ?_; refine sm ?_; refine T.freezeP (lv := l1) hv' zq1 ?_
    intro Ha hla hsa
    refine sv (PV.bytesStr rfl (SlR.src hsa) ⟨_, _, rfl⟩) ?_; refine sm ?_; refine sa ?_; refine sa ?_; refine so ?_
    exact T.retF (Lv.fin (RV.tmp2 rfl rfl rfl) rfl)
  | @cat ad cap ks _ c1 c2 c3 c4 =>
    refine Fn.of_T (vs := [rxV 2 nlS (.slice ad ks.length cap)]) Tryz.func8 rfl rfl fun _ => ?_; refine zs3 ?_; (refine T.box Wanted.none rfl rfl zq15 ?_; intro b1); refine sa ?_; refine sa ?_; refine so ?_; refine sq ?_; refine zs3 ?_; refine sv (PV.loadAll rfl zq0 (by exact rfl)) ?_; refine T.callV Wanted.none rfl rfl (hva) ?_; refine sv (PV.neq rfl rfl) ?_; refine so ?_; refine T.condF rfl rfl ?_; refine T.skip ?_; refine zs3 ?_; refine sv (PV.loadAll rfl zq0 (by exact rfl)) ?_; refine T.callW Wanted.none rfl rfl hli Pick.nil ?_
    rintro _ _ l1 hle ⟨v', rfl, rfl, hv'⟩
    obtain ⟨av', cv', rfl⟩ := hv'.val
    refine sm ?_; refine sv (PV.extract rfl rfl) ?_; refine sv (PV.extract rfl rfl) ?_; refine sa ?_; refine sa ?_; refine zs1 ?_; refine sm ?_; refine T.freezeP (lv := l1) hv' zq1 ?_
    intro Ha hla hsa
    refine sv (PV.bytesStr rfl (SlR.src hsa) ⟨_, _, rfl⟩) ?_; refine sm ?_; refine sa ?_; refine sa ?_; refine so ?_
    exact T.retF (Lv.fin (RV.tmp2 rfl rfl rfl) rfl)
end Go.Proofs.YtpjdhokpfccahaaGreatDoor
namespace Go.Proofs.YtpjdhokpfccahaaGreatDoor
open Go.RowKit

theorem RV.ctt {P : Program} {e : Env} {l : List (Nat × Obj)} {H : Hp} {fn : Func} {p r s : Tmp} {t : TypeId} {v1 v2 v3 : Value} (h : fn.results = #[.cell p t, .tmp r, .tmp s]) (hv : CV P e l H p t v1) (hv2 : e.get r = some v2) (hv3 : e.get s = some v3) : RV P fn e l H (.tuple #[v1, v2, v3]) := RV.mk fun X D a w ha hw => by
  unfold CV at hv
  obtain ⟨a1, g1, h1⟩ := hv
  have h1 := h1 X w hw
  simp [results, h, ha.get _ _ g1, ha.get _ _ hv2, ha.get _ _ hv3, asAddr, h1]
/-- the text of an expression that stands for code points -/
structure QText (s : ByteArray) (ws : List Nat) : Prop where
  l : s.data.toList = encL (qL ws)
  sc : ∀ w ∈ ws, sc w
  sz : s.size ≤ 200
  n : ws.length ≤ 60
theorem QText.at {s : ByteArray} {ws : List Nat} (h : QText s ws) : At s [] (qL ws) := ⟨by rw [h.l]; rfl, q_sc h.sc, by have := h.sz; omega⟩
theorem QText.valid {s : ByteArray} {ws : List Nat} (h : QText s ws) : validS s = true := by rw [validS_ub, h.l]; exact validB_encL _ (q_sc h.sc)
set_option maxHeartbeats 2000000 in
theorem parse_rx (s : ByteArray) (ws : List Nat) (H : Hp) (hT : U8T H) (h : QText s ws) : Fn Tryz.prog 6 #[.string s] H (fun u H' => ∃ e, u = .tuple #[e, .int .i64 0, .int .i64 0] ∧ LitR H' e ws) := by
  have hsz := h.sz
  have hul := units_len s
  have hval := List.all_eq_true.1 h.valid
  have hun := fun b => union_fnW b s ws H hT h.at h.sc (by have := h.n; omega)
  have hofs : s.size = ofs (qL ws) := by have := h.at.size; rw [ofs_nil] at this; omega
  refine Fn.of_T (vs := [.string s]) Tryz.func6 rfl rfl fun _ => ?_; refine zs3 ?_; refine sy fun b2 => ?_; refine sa ?_; refine sa ?_; refine so ?_; refine sq ?_; refine zs3 ?_; refine sm ?_; refine sv (PV.lenStr rfl) ?_; refine sv (PV.gtr rfl rfl) ?_; refine so ?_; refine sd rfl (by omega) ?_; refine T.skip ?_; refine sq ?_; refine zs3 ?_; refine sa ?_; refine so ?_; refine T.block ?_; refine T.loopK [(2, Value.pointer (some { block := b2, off := 0 })), (0, Value.string s)] zq8 (γ := Nat) (fun i => i ≤ (units s).length) (fun i => [(5, .int .i64 (i : Int))]) (fun _ => _) (fun _ => H) (fun i => (units s).length - i) 0 (Nat.zero_le _) zq8 (Sel.refl _) rfl ?_
  intro i hi0
  have hat := at_fn s (i : Int) H (by omega) (by omega)
  by_cases hi : i < (units s).length
  · obtain ⟨u, hu⟩ : ∃ u, (units s)[i]? = some u := ⟨_, List.getElem?_eq_getElem hi⟩
    have hok := hval u (List.mem_of_getElem? hu)
    have hal : atL (units s) (i : Int) = .tuple #[.int .i32 (u.r : Int), .int .i64 (u.at_ : Int), .int .i64 (u.sz : Int), .bool true] := by
      unfold atL; rw [if_neg (by omega), Int.toNat_natCast, hu]
    rw [hal] at hat
    unfold okU at hok
    by_cases hr : (u.r : Int) = 65533
    · have hz : (u.sz : Int) = 3 := by
        simp at hok
        rcases hok with h | h
        · omega
        · omega
      refine sq ?_; refine T.block ?_; refine zs3 ?_; refine sm ?_; refine sm ?_; refine T.callV Wanted.none rfl rfl (hat) ?_; refine sm ?_; refine sv (PV.extract rfl rfl) ?_; refine sv (PV.extract rfl rfl) ?_; refine sv (PV.extract rfl rfl) ?_; refine sv (PV.extract rfl rfl) ?_; refine sa ?_; refine sa ?_; refine sa ?_; refine sa ?_; refine so ?_; refine sq ?_; refine zs3 ?_; refine sm ?_; refine sv (PV.not rfl) ?_; refine so ?_; refine T.condF rfl rfl ?_; refine T.skip ?_; refine zs3 ?_; refine sm ?_; refine sv (PV.eql rfl rfl) ?_; refine sm ?_; refine T.setT (d := 31) rfl (by omega) ?_; refine gm ?_; refine gv (PV.eql rfl rfl) ?_; refine sT ?_; refine so ?_; refine sd rfl (by omega) ?_; refine T.skip ?_; refine T.blkEnd ?_; refine sr ?_; refine sm ?_; refine sv (PV.add rfl rfl (by omega)) ?_; refine sa ?_; refine so ?_
      exact T.nextP (i + 1) (by omega) (by omega) zq8 (by repeat (first | exact Sel.refl _ | exact Sel.nil | (refine Sel.cons zq1 ?_) | (refine Sel.app zq1 ?_) | exact Sel.one zq1)) rfl
    · refine sq ?_; refine T.block ?_; refine zs3 ?_; refine sm ?_; refine sm ?_; refine T.callV Wanted.none rfl rfl (hat) ?_; refine sm ?_; refine sv (PV.extract rfl rfl) ?_; refine sv (PV.extract rfl rfl) ?_; refine sv (PV.extract rfl rfl) ?_; refine sv (PV.extract rfl rfl) ?_; refine sa ?_; refine sa ?_; refine sa ?_; refine sa ?_; refine so ?_; refine sq ?_; refine zs3 ?_; refine sm ?_; refine sv (PV.not rfl) ?_; refine so ?_; refine T.condF rfl rfl ?_; refine T.skip ?_; refine zs3 ?_; refine sm ?_; refine sv (PV.eql rfl rfl) ?_; refine sm ?_; refine T.setF (d := 31) rfl (by omega) ?_; refine sp ?_; refine sp ?_; refine sF ?_; refine so ?_; refine T.condF rfl rfl ?_; refine T.skip ?_; refine T.blkEnd ?_; refine sr ?_; refine sm ?_; refine sv (PV.add rfl rfl (by omega)) ?_; refine sa ?_; refine so ?_
      exact T.nextP (i + 1) (by omega) (by omega) zq8 (by repeat (first | exact Sel.refl _ | exact Sel.nil | (refine Sel.cons zq1 ?_) | (refine Sel.app zq1 ?_) | exact Sel.one zq1)) rfl
  · have hal : atL (units s) (i : Int) = .tuple #[.int .i32 0, .int .i64 0, .int .i64 0, .bool false] := by
      unfold atL; rw [if_neg (by omega), Int.toNat_natCast, List.getElem?_eq_none (by omega)]
    rw [hal] at hat
    refine sq ?_; refine T.block ?_; refine zs3 ?_; refine sm ?_; refine sm ?_; refine T.callV Wanted.none rfl rfl (hat) ?_; refine sm ?_; refine sv (PV.extract rfl rfl) ?_; refine sv (PV.extract rfl rfl) ?_; refine sv (PV.extract rfl rfl) ?_; refine sv (PV.extract rfl rfl) ?_; refine sa ?_; refine sa ?_; refine sa ?_; refine sa ?_; refine so ?_; refine sq ?_; refine zs3 ?_; refine sm ?_; refine sv (PV.not rfl) ?_; refine so ?_; refine T.condT rfl rfl ?_; refine T.exit rfl ?_; refine zs3 ?_; refine sm ?_; refine sv (PV.build rfl zq12) ?_; refine sy fun b10 => ?_; refine T.storeA Wanted.none rfl rfl zq8 (by exact rfl) zq14 zq13 ?_; refine zs1 ?_; refine T.callW Wanted.none rfl rfl (hun b10) zq1 ?_
    rintro _ H1 l1 hle ⟨e, rfl, he, rfl⟩
    have hva := validate_rx e ws H1 he h.sc h.n
    have he0 := he
    cases he with
    | @one k w hk =>
      refine sm ?_; refine sv (PV.extract rfl rfl) ?_; refine sv (PV.extract rfl rfl) ?_; refine sy fun b11 => ?_; refine T.storeA Wanted.none rfl rfl zq8 (by exact rfl) zq14 zq13 ?_; refine sa ?_; refine so ?_; refine sq ?_; refine zs3 ?_; refine sm ?_; refine sm ?_; refine gf ?_; refine gl ?_; refine gm ?_; refine gv (PV.lenStr rfl) ?_; refine gv (PV.lss rfl rfl) ?_; refine sT ?_; refine so ?_; refine sd rfl (by omega) ?_; refine T.skip ?_; refine sq ?_; refine zs3 ?_; refine sm ?_; refine sv (PV.not rfl) ?_; refine so ?_; refine T.condF rfl rfl ?_; refine T.skip ?_; refine sq ?_; refine zs3 ?_; refine sv (PV.loadAll rfl zq0 (by exact rfl)) ?_; refine T.callV Wanted.none rfl rfl (hva) ?_; refine sv (PV.neq rfl rfl) ?_; refine so ?_; refine T.condF rfl rfl ?_; refine T.skip ?_; refine zs3 ?_; refine sv (PV.loadAll rfl zq0 (by exact rfl)) ?_; refine T.storeA Wanted.none rfl rfl zq8 (by exact rfl) zq14 zq13 ?_; refine sa ?_; refine sa ?_
      refine so ?_
      exact T.retF (Lv.fin (RV.ctt rfl (by exact CV.agg rfl zq0 (by exact rfl)) rfl rfl) ⟨_, rfl, he0⟩)
    | @cat ad cap ks _ c1 c2 c3 c4 =>
      refine sm ?_; refine sv (PV.extract rfl rfl) ?_; refine sv (PV.extract rfl rfl) ?_; refine sy fun b11 => ?_; refine T.storeA Wanted.none rfl rfl zq8 (by exact rfl) zq14 zq13 ?_; refine sa ?_; refine so ?_; refine sq ?_; refine zs3 ?_; refine sm ?_; refine sm ?_; refine gf ?_; refine gl ?_; refine gm ?_; refine gv (PV.lenStr rfl) ?_; refine gv (PV.lss rfl rfl) ?_; refine sT ?_; refine so ?_; refine sd rfl (by omega) ?_; refine T.skip ?_; refine sq ?_; refine zs3 ?_; refine sm ?_; refine sv (PV.not rfl) ?_; refine so ?_; refine T.condF rfl rfl ?_; refine T.skip ?_; refine sq ?_; refine zs3 ?_; refine sv (PV.loadAll rfl zq0 (by exact rfl)) ?_; refine T.callV Wanted.none rfl rfl (hva) ?_; refine sv (PV.neq rfl rfl) ?_; refine so ?_; refine T.condF rfl rfl ?_; refine T.skip ?_; refine zs3 ?_; refine sv (PV.loadAll rfl zq0 (by exact rfl)) ?_; refine T.storeA Wanted.none rfl rfl zq8 (by exact rfl) zq14 zq13 ?_; refine sa ?_; refine sa ?_
      refine so ?_
      exact T.retF (Lv.fin (RV.ctt rfl (by exact CV.agg rfl zq0 (by exact rfl)) rfl rfl) ⟨_, rfl, he0⟩)
end Go.Proofs.YtpjdhokpfccahaaGreatDoor
