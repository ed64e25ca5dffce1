/- expressions that stand for a text, read: a union of one; what the checks of an expression say.
   expressions that stand for a text: they are valid. -/
import Derived.Test.YtpjdhokpfccahaaGreatDoorGS
namespace Go.Proofs.YtpjdhokpfccahaaGreatDoor
open Go.RowKit

set_option maxHeartbeats 4000000 in
theorem union_fnW (b : Nat) (s : ByteArray) (ws : List Nat) (H : Hp) (hT : U8T H) (h : At s [] (qL ws)) (hws : ∀ w ∈ ws, sc w) (hwl : ws.length ≤ 100) :
    FnW Tryz.prog 16 #[.pointer (some ⟨b, 0, none⟩)] H [psB b s (ofs [])] (fun u H' l' => ∃ e, u = .tuple #[e, .bool true] ∧ LitR H' e ws ∧ l' = [psB b s (ofs (qL ws))]) := by
  have hcc := concat_fnW b s ws H hT h hws hwl
  have hat : At s (qL ws) [] := by
    have : At s [] (qL ws ++ []) := by rw [List.append_nil]; exact h
    have := this.app
    rwa [List.nil_append] at this
  have n1 := fun H' hT' => next_fnS b s (qL ws) [] H' hT' hat
  refine FnW.of_T (vs := [.pointer (some ⟨b, 0, none⟩)]) Tryz.func16 rfl rfl fun _ => ?_; refine zs3 ?_; refine sy fun b2 => ?_; refine sa ?_; refine zs1 ?_; refine sa ?_; refine so ?_; refine sq ?_; refine T.block ?_; refine T.rounds 0 ?_; refine T.block ?_; refine zs3 ?_; refine sm ?_; refine T.callW Wanted.none rfl rfl hcc zq1 ?_
  rintro _ H1 l1 hle ⟨e, rfl, he, rfl⟩
  have n1 : FnS Tryz.prog 32 #[.pointer (some ⟨b, 0, none⟩)] H1 [psB b s (ofs (qL ws))] (.int .i32 (-1)) [psB b s (ofs (qL ws))] := n1 H1 (hT.mono hle)
  have he0 := he
  cases he with
  | @one k w hk =>
    refine sm ?_; refine sv (PV.extract rfl rfl) ?_; refine sv (PV.extract rfl rfl) ?_; refine sy fun b5 => ?_; refine T.storeA Wanted.none rfl rfl zq8 (by exact rfl) zq14 zq13 ?_; refine sa ?_; refine so ?_; refine sq ?_; refine zs3 ?_; refine sm ?_; refine sv (PV.not rfl) ?_; refine so ?_; refine T.condF rfl rfl ?_; refine T.skip ?_; refine sq ?_; refine zs3 ?_; refine sf ?_; refine sl ?_; refine sv (PV.eql rfl rfl) ?_; refine so ?_; refine T.condF rfl rfl ?_; refine sr ?_; refine sm ?_; refine sv (PV.loadAll rfl zq0 (by exact rfl)) ?_; (refine T.buildSlice Wanted.none rfl rfl zq11 (by exact rfl) (by exact rfl) ?_; intro b24); (refine T.appendP (lv := []) Wanted.none rfl rfl rfl (Vec.nil 37 5) (Src.cells (m := 1) (ys := [.int .i64 1, .int .i64 0, .int .i64 0, rg1 k, nlS]) (.own zq2) rfl rfl) (by intro v hv; simp at hv; rcases hv with rfl | rfl | rfl | rfl <;> rfl) (by omega) zq1 ?_; intro v25 lv25 hv25 _; obtain ⟨bv25, cv25, rfl⟩ := hv25.ptr (by omega); obtain ⟨_, _, _, tl25, rfl, _⟩ := hv25.row (by simp)); refine sa ?_; refine so ?_; refine sq ?_; refine zs3 ?_; refine sm ?_; (refine T.callWV Wanted.none rfl rfl n1 zq1 ?_); refine sv (PV.neq rfl rfl) ?_; refine so ?_; refine T.condT rfl rfl ?_; refine T.exit rfl ?_; refine sq ?_; refine zs3 ?_; refine sm ?_; refine sv (PV.lenSl rfl) ?_
    refine sv (PV.eql rfl rfl) ?_; refine so ?_; refine T.condT rfl rfl ?_; refine zs3 ?_; refine sm ?_; refine sv (PV.indexAddr rfl rfl (by omega)) ?_; refine sv (PV.loadAgg rfl zq0 (by exact rfl) (by exact rfl)) ?_; refine T.storeA Wanted.none rfl rfl zq8 (by exact rfl) zq14 zq13 ?_; refine sa ?_; refine so ?_
    exact T.retW (Lv.finW [psB b s (ofs (qL [w]))] zq4 (RV.ct rfl (by exact CV.agg rfl zq0 (by exact rfl)) rfl) ⟨_, rfl, he0, rfl⟩)
  | @cat ad cap ks _ c1 c2 c3 c4 =>
    refine sm ?_; refine sv (PV.extract rfl rfl) ?_; refine sv (PV.extract rfl rfl) ?_; refine sy fun b5 => ?_; refine T.storeA Wanted.none rfl rfl zq8 (by exact rfl) zq14 zq13 ?_; refine sa ?_; refine so ?_; refine sq ?_; refine zs3 ?_; refine sm ?_; refine sv (PV.not rfl) ?_; refine so ?_; refine T.condF rfl rfl ?_; refine T.skip ?_; refine sq ?_; refine zs3 ?_; refine sf ?_; refine sl ?_; refine sv (PV.eql rfl rfl) ?_; refine so ?_; refine T.condF rfl rfl ?_; refine sr ?_; refine sm ?_; refine sv (PV.loadAll rfl zq0 (by exact rfl)) ?_; (refine T.buildSlice Wanted.none rfl rfl zq11 (by exact rfl) (by exact rfl) ?_; intro b24); (refine T.appendP (lv := []) Wanted.none rfl rfl rfl (Vec.nil 37 5) (Src.cells (m := 1) (ys := [.int .i64 2, .int .i64 0, .int .i64 0, nlS, .slice ad ks.length cap]) (.own zq2) rfl rfl) (by intro v hv; simp at hv; rcases hv with rfl | rfl | rfl | rfl <;> rfl) (by omega) zq1 ?_; intro v25 lv25 hv25 _; obtain ⟨bv25, cv25, rfl⟩ := hv25.ptr (by omega); obtain ⟨_, _, _, tl25, rfl, _⟩ := hv25.row (by simp)); refine sa ?_; refine so ?_; refine sq ?_; refine zs3 ?_; refine sm ?_; (refine T.callWV Wanted.none rfl rfl n1 zq1 ?_); refine sv (PV.neq rfl rfl) ?_; refine so ?_; refine T.condT rfl rfl ?_; refine T.exit rfl ?_; refine sq ?_; refine zs3 ?_; refine sm ?_; refine sv (PV.lenSl rfl) ?_
    refine sv (PV.eql rfl rfl) ?_; refine so ?_; refine T.condT rfl rfl ?_; refine zs3 ?_; refine sm ?_; refine sv (PV.indexAddr rfl rfl (by omega)) ?_; refine sv (PV.loadAgg rfl zq0 (by exact rfl) (by exact rfl)) ?_; refine T.storeA Wanted.none rfl rfl zq8 (by exact rfl) zq14 zq13 ?_; refine sa ?_; refine so ?_
    exact T.retW (Lv.finW [psB b s (ofs (qL ws))] zq4 (RV.ct rfl (by exact CV.agg rfl zq0 (by exact rfl)) rfl) ⟨_, rfl, he0, rfl⟩)
/-! ### what the checks say -/
abbrev nB (b n : Nat) : Nat × Obj := (b, .cells #[.int .i64 (n : Int)] 3 (0, 0))
theorem small1_fn (k b n d : Nat) (H : Hp) (hn : n ≤ 150) (hd : d ≤ 10) :
    FnS Tryz.prog 33 #[rxV 1 (rg1 k) nlS, .int .i64 (d : Int), .pointer (some ⟨b, 0, none⟩)] H [nB b n] (.bool true) [nB b (n + 1)] := by
  refine FnW.of_T (vs := [rxV 1 (rg1 k) nlS, .int .i64 (d : Int), .pointer (some ⟨b, 0, none⟩)]) Tryz.func33 rfl rfl fun _ => ?_; refine zs3 ?_; (refine T.box Wanted.none rfl rfl zq15 ?_; intro b3); refine sa ?_; refine zs1 ?_; refine sm ?_; refine sv (PV.nilCheck rfl) ?_; refine sl ?_; refine sv (PV.add rfl rfl (by omega)) ?_; refine sv (PV.nilCheck rfl) ?_; refine T.store1 Wanted.none rfl rfl rfl zq14 zq13 ?_; refine so ?_; refine sq ?_; refine zs3 ?_; refine sm ?_; refine sv (PV.gtr rfl rfl) ?_; refine sm ?_; refine T.setF (d := 16) rfl (by omega) ?_; refine gm ?_; refine gv (PV.nilCheck rfl) ?_; refine gl ?_; refine gv (PV.gtr rfl rfl) ?_; refine sF ?_; refine so ?_; refine sd rfl (by omega) ?_; refine T.skip ?_; refine sq ?_; refine zs3 ?_; refine sf ?_; refine sl ?_; refine sv (PV.lenSl rfl) ?_; refine sm ?_; refine so ?_; refine T.block ?_; refine T.rounds 1 ?_; refine zs3 ?_; refine sv (PV.lss rfl rfl) ?_; refine so ?_; refine sq ?_; refine T.condF rfl rfl ?_
  refine T.exit rfl ?_; refine zs3 ?_; refine sa ?_; refine so ?_
  exact T.retW (Lv.finW [nB b (n + 1)] zq4 (RV.tmp rfl rfl) ⟨rfl, rfl, rfl⟩)
theorem small_fn (e : Value) (ws : List Nat) (b : Nat) (H : Hp) (he : LitR H e ws) (hl : ws.length ≤ 100) :
    FnW Tryz.prog 33 #[e, .int .i64 1, .pointer (some ⟨b, 0, none⟩)] H [nB b 0] (fun u H' l' => u = .bool true ∧ H' = H ∧ ∃ n, l' = [nB b n]) := by
  cases he with
  | one hk =>
    refine (small1_fn _ b 0 1 H (by omega) (by omega)).mono ?_
    rintro u H' l' ⟨rfl, rfl, rfl⟩
    exact ⟨rfl, rfl, _, rfl⟩
  | @cat ad cap ks _ c1 c2 c3 c4 =>
    have hsm := fun k n (hn : n ≤ 150) => small1_fn k b n 2 H hn (by omega)
    refine FnW.of_T (vs := [rxV 2 nlS (.slice ad ks.length cap), .int .i64 1, .pointer (some ⟨b, 0, none⟩)]) Tryz.func33 rfl rfl fun _ => ?_; refine zs3 ?_; (refine T.box Wanted.none rfl rfl zq15 ?_; intro b3); refine sa ?_; refine zs1 ?_; refine sm ?_; refine sv (PV.nilCheck rfl) ?_; refine sl ?_; refine sv (PV.add rfl rfl (by omega)) ?_; refine sv (PV.nilCheck rfl) ?_; refine T.store1 Wanted.none rfl rfl rfl zq14 zq13 ?_; refine so ?_; refine sq ?_; refine zs3 ?_; refine sm ?_; refine sv (PV.gtr rfl rfl) ?_; refine sm ?_; refine gm ?_; refine gv (PV.nilCheck rfl) ?_; refine gl ?_; refine gv (PV.gtr rfl rfl) ?_; refine sF ?_; refine so ?_; refine T.condF rfl rfl ?_; refine T.skip ?_; refine sq ?_; refine zs3 ?_; refine sf ?_; refine sl ?_; refine sv (PV.lenSl rfl) ?_; refine sm ?_; refine so ?_; refine T.block ?_; refine T.loopK [(24, Value.int IntKind.i64 (↑ks.length : Int)), (23, Value.slice ad ks.length cap), (1, Value.int IntKind.i64 1), (2, Value.pointer (some { block := b, off := 0 }))] zq8 (γ := Nat) (fun g => g ≤ ks.length) (fun g => [(25, .int .i64 (g : Int))]) (fun g => [nB b (g + 1), (b3, .cells #[.int .i64 2, .int .i64 0, .int .i64 0, nlS, .slice ad ks.length cap] 37 (0, 0))]) (fun _ => H) (fun g => ks.length - g) 0 (Nat.zero_le _) zq8 (by repeat (first | exact Sel.refl _ | exact Sel.nil | (refine Sel.cons zq1 ?_) | (refine Sel.app zq1 ?_) | exact Sel.one zq1)) rfl ?_
    intro i hi0
    by_cases hi : i < ks.length
    · obtain ⟨bx, off, k, rfl, hix, hsub⟩ := RowL.get encRx_len c3 hi
      unfold encRx at hsub
      have hs1 : FnS Tryz.prog 33 #[rxV 1 (rg1 k) nlS, .int .i64 (1 + 1), .pointer (some ⟨b, 0, none⟩)] H [nB b (i + 1)] (.bool true) [nB b (i + 1 + 1)] := hsm k (i + 1) (by omega)
      refine zs3 ?_; refine sv (PV.lss rfl rfl) ?_; refine so ?_; refine sq ?_; refine sC rfl (by omega) ?_; refine T.skip ?_; refine sq ?_; refine T.block ?_; refine zs3 ?_; refine sv (PV.indexAddr rfl rfl (by omega)) ?_; refine sv (PV.loadSubAll rfl (by assumption) (by exact rfl)) ?_; refine sy fun b8 => ?_; refine T.storeA Wanted.none rfl rfl zq8 (by exact rfl) zq14 zq13 ?_; refine zs1 ?_; refine sv (PV.loadAll rfl zq0 (by exact rfl)) ?_; refine sm ?_; refine sv (PV.add rfl rfl (by omega)) ?_; refine sm ?_; (refine T.callWV Wanted.none rfl rfl hs1 zq1 ?_); refine sv (PV.not rfl) ?_; refine so ?_; refine T.condF rfl rfl ?_; refine T.skip ?_; refine T.blkEnd ?_; refine sr ?_; refine sv (PV.add rfl rfl (by omega)) ?_; refine sm ?_; refine so ?_
      exact T.nextP (i + 1) (by omega) (by omega) zq8 (by repeat (first | exact Sel.refl _ | exact Sel.nil | (refine Sel.cons zq1 ?_) | (refine Sel.app zq1 ?_) | exact Sel.one zq1)) rfl
    · refine zs3 ?_; refine sv (PV.lss rfl rfl) ?_; refine so ?_; refine sq ?_; refine sd rfl (by omega) ?_; refine T.exit rfl ?_; refine zs3 ?_; refine sa ?_; refine so ?_
      exact T.retW (Lv.finW [nB b (i + 1)] zq4 (RV.tmp rfl rfl) ⟨rfl, rfl, _, rfl⟩)
end Go.Proofs.YtpjdhokpfccahaaGreatDoor
namespace Go.Proofs.YtpjdhokpfccahaaGreatDoor
open Go.RowKit

theorem RgS.open {H : Hp} {k w : Nat} (h : RgS H k w) : SubC H k (0 + 0 * 2) [.int .i32 (w : Int), .int .i32 (w : Int)] := by
  obtain ⟨b, off, cap, e, hs⟩ := SlR.elem (i := 0) (vs := [.int .i32 (w : Int), .int .i32 (w : Int)]) h (by omega) rfl
  injection e with e
  injection e with e
  injection e with e1 e2
  subst e1 e2
  exact hs
theorem validSet_fn (k w : Nat) (H : Hp) (h : RgS H k w) (hw : sc w) : Fn Tryz.prog 119 #[rg1 k] H (fun u _ => u = .bool true) := by
  have hs := h.open
  obtain ⟨h1, h2⟩ := hw
  refine Fn.of_T (vs := [rg1 k]) Tryz.func119 rfl rfl fun _ => ?_; refine zs3 ?_; refine sa ?_; refine so ?_; refine sq ?_; refine zs3 ?_; refine sm ?_; refine sv (PV.lenSl rfl) ?_; refine sm ?_; refine so ?_; refine T.block ?_; refine T.rounds 2 ?_; refine zs3 ?_; refine sv (PV.lss rfl rfl) ?_; refine so ?_; refine sq ?_; refine T.condT rfl rfl ?_; refine T.skip ?_; refine sq ?_; refine T.block ?_; refine zs3 ?_; refine sm ?_; refine sv (PV.indexAddr rfl rfl (by omega)) ?_; refine sv (PV.loadSubAll rfl (by assumption) (by exact rfl)) ?_; refine sy fun b4 => ?_; refine sa ?_; refine T.storeA Wanted.none rfl rfl zq8 (by exact rfl) zq14 zq13 ?_; refine so ?_; refine sq ?_; refine T.regionQ (by kernel_rfl) ?_; refine TQ.pv (PV.fieldAddr rfl) Wanted.none rfl rfl ?_; refine TQ.pv (PV.load1 rfl zq0 rfl) Wanted.none rfl rfl ?_; refine TQ.pv (PV.lss rfl rfl) Wanted.none rfl rfl ?_; refine TQ.pv (PV.move rfl) Wanted.none rfl rfl ?_; refine TQ.pv (PV.fieldAddr rfl) (Wanted.guard rfl rfl rfl) rfl rfl ?_; refine TQ.pv (PV.load1 rfl zq0 rfl) (Wanted.guard rfl rfl rfl) rfl rfl ?_; refine TQ.pv (PV.fieldAddr rfl) (Wanted.guard rfl rfl rfl) rfl rfl ?_; refine TQ.pv (PV.load1 rfl zq0 rfl) (Wanted.guard rfl rfl rfl) rfl rfl ?_; refine TQ.pv (PV.gtr rfl rfl) (Wanted.guard rfl rfl rfl) rfl rfl ?_; refine TQ.pv (PV.pickF rfl rfl rfl) Wanted.none rfl rfl ?_
  refine TQ.pv (PV.move rfl) Wanted.none rfl rfl ?_; refine TQ.setF (d := 22) rfl (by omega) ?_; refine TQ.pv (PV.fieldAddr rfl) (Wanted.guard rfl rfl rfl) rfl rfl ?_; refine TQ.pv (PV.load1 rfl zq0 rfl) (Wanted.guard rfl rfl rfl) rfl rfl ?_; refine TQ.pv (PV.gtr rfl rfl) (Wanted.guard rfl rfl rfl) rfl rfl ?_; refine TQ.pv (PV.pickF rfl rfl rfl) Wanted.none rfl rfl ?_; refine TQ.pv (PV.move rfl) Wanted.none rfl rfl ?_; refine TQ.setF (d := 27) rfl (by omega) ?_; refine TQ.pv (PV.move rfl) (Wanted.guard rfl rfl rfl) rfl rfl ?_; refine TQ.pv (PV.gtr rfl rfl) (Wanted.guard rfl rfl rfl) rfl rfl ?_; refine TQ.pv (PV.move rfl) (Wanted.guard rfl rfl rfl) rfl rfl ?_; refine TQ.pass (Unwanted.guard rfl rfl rfl) rfl rfl ?_; refine TQ.pass (Unwanted.guard rfl rfl rfl) rfl rfl ?_; refine TQ.pass (Unwanted.guard rfl rfl rfl) rfl rfl ?_; refine TQ.pass (Unwanted.guard rfl rfl rfl) rfl rfl ?_; refine TQ.pass (Unwanted.guard rfl rfl rfl) rfl rfl ?_; refine TQ.pass (Unwanted.guard rfl rfl rfl) rfl rfl ?_; refine TQ.pass (Unwanted.guard rfl rfl rfl) rfl rfl ?_; refine TQ.pass (Unwanted.guard rfl rfl rfl) rfl rfl ?_; refine TQ.pass (Unwanted.guard rfl rfl rfl) rfl rfl ?_; refine TQ.pass (Unwanted.guard rfl rfl rfl) rfl rfl ?_; refine TQ.pv (PV.pickF rfl rfl rfl) (Wanted.guard rfl rfl rfl) rfl rfl ?_; refine TQ.pv (PV.pickF rfl rfl rfl) Wanted.none rfl rfl ?_; refine TQ.nil ?_; refine T.condF rfl rfl ?_; refine T.skip ?_; refine T.blkEnd ?_; refine sr ?_; refine sv (PV.add rfl rfl (by omega)) ?_; refine sm ?_; refine so ?_; refine T.again ?_; refine zs3 ?_; refine sv (PV.lss rfl rfl) ?_; refine so ?_; refine sq ?_; refine T.condF rfl rfl ?_; refine T.exit rfl ?_; refine zs3 ?_; refine sm ?_
  refine sv (PV.lenSl rfl) ?_; refine sv (PV.gtr rfl rfl) ?_; refine sa ?_; refine so ?_
  exact T.retF (Lv.fin (RV.tmp rfl rfl) rfl)
theorem validNode1_fn (k w : Nat) (H : Hp) (h : RgS H k w) (hw : sc w) : Fn Tryz.prog 72 #[rxV 1 (rg1 k) nlS] H (fun u _ => u = .bool true) := by
  have hs := validSet_fn k w H h hw
  refine Fn.of_T (vs := [rxV 1 (rg1 k) nlS]) Tryz.func72 rfl rfl fun _ => ?_; refine zs3 ?_; (refine T.box Wanted.none rfl rfl zq15 ?_; intro b1); refine sa ?_; refine so ?_; refine sq ?_; refine zs3 ?_; refine sf ?_; refine sl ?_; refine sv (PV.neq rfl rfl) ?_; refine sm ?_; refine sp ?_; refine sp ?_; refine sp ?_; refine sp ?_; refine sF ?_; refine sm ?_; refine gf ?_; refine gl ?_; refine gv (PV.neq rfl rfl) ?_; refine gm ?_; refine gf ?_; refine gl ?_; refine gv (PV.neq rfl rfl) ?_; refine gm ?_; refine gf ?_; refine gl ?_; refine gv (PV.neq rfl rfl) ?_; refine gv (PV.pickF rfl rfl rfl) ?_; refine gv (PV.pickT rfl rfl rfl) ?_; refine sF ?_; refine so ?_; refine T.condF rfl rfl ?_; refine T.skip ?_; refine zs3 ?_; refine sf ?_; refine sl ?_; refine sv (PV.lenSl rfl) ?_; refine sa ?_; refine so ?_
  refine sq ?_; refine zs3 ?_; refine sf ?_; refine sl ?_; refine sv (PV.lenSl rfl) ?_; refine sm ?_; refine so ?_; refine T.block ?_; refine T.rounds 1 ?_; refine zs3 ?_; refine sv (PV.lss rfl rfl) ?_; refine so ?_; refine sq ?_; refine T.condF rfl rfl ?_; refine T.exit rfl ?_; refine sq ?_; refine zs3 ?_; refine sf ?_; refine sl ?_; refine so ?_; refine T.block ?_; refine zs3 ?_; refine sv (PV.eql rfl rfl) ?_; refine sa ?_; refine so ?_; refine T.condT rfl rfl ?_; refine zs3 ?_; refine sm ?_; refine sv (PV.eql rfl rfl) ?_; refine sm ?_; refine gf ?_; refine gl ?_; refine T.callV (Wanted.guard rfl rfl rfl) rfl rfl (hs) ?_; refine sT ?_; refine sa ?_; refine so ?_
  exact T.retF (Lv.fin (RV.tmp rfl rfl) rfl)
theorem validNodes1_fn (k w : Nat) (H : Hp) (h : RgS H k w) (hw : sc w) : Fn Tryz.prog 34 #[rxV 1 (rg1 k) nlS] H (fun u _ => u = .bool true) := by
  have hs := validNode1_fn k w H h hw
  refine Fn.of_T (vs := [rxV 1 (rg1 k) nlS]) Tryz.func34 rfl rfl fun _ => ?_; refine zs3 ?_; (refine T.box Wanted.none rfl rfl zq15 ?_; intro b1); refine sa ?_; refine so ?_; refine sq ?_; refine zs3 ?_; refine sv (PV.loadAll rfl zq0 (by exact rfl)) ?_; refine T.callV Wanted.none rfl rfl (hs) ?_; refine sv (PV.not rfl) ?_; refine so ?_; refine T.condF rfl rfl ?_; refine T.skip ?_; refine sq ?_; refine zs3 ?_; refine sf ?_; refine sl ?_; refine sv (PV.lenSl rfl) ?_; refine sm ?_; refine so ?_; refine T.block ?_; refine T.rounds 1 ?_; refine zs3 ?_; refine sv (PV.lss rfl rfl) ?_; refine so ?_; refine sq ?_; refine T.condF rfl rfl ?_; refine T.exit rfl ?_; refine zs3 ?_; refine sa ?_; refine so ?_
  exact T.retF (Lv.fin (RV.tmp rfl rfl) rfl)
theorem positions1_fn (k : Nat) (H : Hp) : Fn Tryz.prog 35 #[rxV 1 (rg1 k) nlS] H (fun u _ => u = .int .i64 1) := by
  refine Fn.of_T (vs := [rxV 1 (rg1 k) nlS]) Tryz.func35 rfl rfl fun _ => ?_; refine zs3 ?_; (refine T.box Wanted.none rfl rfl zq15 ?_; intro b1); refine sa ?_; refine so ?_; refine sq ?_; refine zs3 ?_; refine sf ?_; refine sl ?_; refine sv (PV.eql rfl rfl) ?_; refine so ?_; refine T.condT rfl rfl ?_; refine zs3 ?_; refine sa ?_; refine so ?_
  exact T.retF (Lv.fin (RV.tmp rfl rfl) rfl)
theorem ks_at {ks ws : List Nat} {H : Hp} (h2 : ks.length = ws.length) (h4 : ∀ (j k w : Nat), ks[j]? = some k → ws[j]? = some w → RgS H k w) {i k : Nat} (hk : ks[i]? = some k) : ∃ w, ws[i]? = some w ∧ RgS H k w := by
  have hi := (List.getElem?_eq_some_iff.1 hk).1
  exact ⟨ws[i]'(by omega), List.getElem?_eq_getElem (by omega), h4 i k _ hk (List.getElem?_eq_getElem (by omega))⟩
theorem validNode_fn (ad : Option Addr) (cap : Nat) (ks ws : List Nat) (H : Hp) (c1 : ws.length ≠ 1) (c2 : ks.length = ws.length) (c3 : SlR H 5 (.slice ad ks.length cap) ks.length (ks.flatMap encRx)) (hl : ws.length ≤ 100) : Fn Tryz.prog 72 #[rxV 2 nlS (.slice ad ks.length cap)] H (fun u _ => u = .bool true) := by
  refine Fn.of_T (vs := [rxV 2 nlS (.slice ad ks.length cap)]) Tryz.func72 rfl rfl fun _ => ?_; refine zs3 ?_; (refine T.box Wanted.none rfl rfl zq15 ?_; intro b1); refine sa ?_; refine so ?_; refine sq ?_; refine zs3 ?_; refine sf ?_; refine sl ?_; refine sv (PV.neq rfl rfl) ?_; refine sm ?_; refine gf ?_; refine gl ?_; refine gv (PV.lenSl rfl) ?_; refine gv (PV.gtr rfl rfl) ?_; refine sT ?_; refine sm ?_; refine gf ?_; refine gl ?_; refine gv (PV.neq rfl rfl) ?_; refine gm ?_; refine gf ?_; refine gl ?_; refine gv (PV.neq rfl rfl) ?_; refine gm ?_; refine gf ?_; refine gl ?_; refine gv (PV.neq rfl rfl) ?_; refine gv (PV.pickF rfl rfl rfl) ?_; refine gv (PV.pickT rfl rfl rfl) ?_; refine sF ?_; refine so ?_; refine T.condF rfl rfl ?_; refine T.skip ?_; refine zs3 ?_; refine sf ?_; refine sl ?_; refine sv (PV.lenSl rfl) ?_; refine sa ?_; refine so ?_
  refine sq ?_; refine zs3 ?_; refine sf ?_; refine sl ?_; refine sv (PV.lenSl rfl) ?_; refine sm ?_; refine so ?_; refine T.block ?_; refine T.loopR [(35, Value.int IntKind.i64 (↑ks.length : Int)), (34, Value.slice ad ks.length cap), (3, Value.int IntKind.i64 (↑ks.length : Int)), (1, Value.pointer (some { block := b1, off := 0 }))] zq8 36 ks.length rfl ?_
  intro i hi0
  by_cases hi : i < ks.length
  · obtain ⟨bx, off, k, rfl, hix, hsub⟩ := RowL.get encRx_len c3 hi
    unfold encRx at hsub
    refine zs3 ?_; refine sv (PV.lss rfl rfl) ?_; refine so ?_; refine sq ?_; refine sC rfl (by omega) ?_; refine T.skip ?_; refine sq ?_; refine T.block ?_; refine zs3 ?_; refine sv (PV.indexAddr rfl rfl (by omega)) ?_; refine sv (PV.loadSubAll rfl (by assumption) (by exact rfl)) ?_; refine sy fun b5 => ?_; refine T.storeA Wanted.none rfl rfl zq8 (by exact rfl) zq14 zq13 ?_; refine zs1 ?_; refine sf ?_; refine sl ?_; refine sf ?_; refine sl ?_; refine sv (PV.eql rfl rfl) ?_; refine sm ?_; refine sp ?_; refine sp ?_; refine sp ?_; refine sF ?_; refine so ?_; refine T.condF rfl rfl ?_; refine T.skip ?_; refine T.blkEnd ?_; refine sr ?_; refine sv (PV.add rfl rfl (by omega)) ?_; refine sm ?_; refine so ?_
    exact T.nextR hi rfl zq8 (by repeat (first | exact Sel.refl _ | exact Sel.nil | (refine Sel.cons zq1 ?_) | (refine Sel.app zq1 ?_) | exact Sel.one zq1))
  · refine zs3 ?_; refine sv (PV.lss rfl rfl) ?_; refine so ?_; refine sq ?_; refine sd rfl (by omega) ?_; refine T.exit rfl ?_; refine sq ?_; refine zs3 ?_; refine sf ?_; refine sl ?_; refine so ?_; refine T.block ?_; refine zs3 ?_; refine sv (PV.eql rfl rfl) ?_; refine sa ?_; refine so ?_; refine T.condF rfl rfl ?_; refine zs3 ?_; refine sv (PV.eql rfl rfl) ?_; refine sa ?_; refine so ?_; refine T.condT rfl rfl ?_; refine zs3 ?_; refine sm ?_; refine sv (PV.neq rfl rfl) ?_; refine sa ?_; refine so ?_
    exact T.retF (Lv.fin (RV.tmp rfl rfl) (by congr 1; exact decide_eq_true (by omega)))
theorem validNodes_fn (ad : Option Addr) (cap : Nat) (ks ws : List Nat) (H : Hp) (c1 : ws.length ≠ 1) (c2 : ks.length = ws.length) (c3 : SlR H 5 (.slice ad ks.length cap) ks.length (ks.flatMap encRx)) (c4 : ∀ (j k w : Nat), ks[j]? = some k → ws[j]? = some w → RgS H k w) (hws : ∀ w ∈ ws, sc w) (hl : ws.length ≤ 100) : Fn Tryz.prog 34 #[rxV 2 nlS (.slice ad ks.length cap)] H (fun u _ => u = .bool true) := by
  have hv := validNode_fn ad cap ks ws H c1 c2 c3 hl
  refine Fn.of_T (vs := [rxV 2 nlS (.slice ad ks.length cap)]) Tryz.func34 rfl rfl fun _ => ?_; refine zs3 ?_; (refine T.box Wanted.none rfl rfl zq15 ?_; intro b1); refine sa ?_; refine so ?_; refine sq ?_; refine zs3 ?_; refine sv (PV.loadAll rfl zq0 (by exact rfl)) ?_; refine T.callV Wanted.none rfl rfl (hv) ?_; refine sv (PV.not rfl) ?_; refine so ?_; refine T.condF rfl rfl ?_; refine T.skip ?_; refine sq ?_; refine zs3 ?_; refine sf ?_; refine sl ?_; refine sv (PV.lenSl rfl) ?_; refine sm ?_; refine so ?_; refine T.block ?_; refine T.loopR [(10, Value.int IntKind.i64 (↑ks.length : Int)), (9, Value.slice ad ks.length cap)] zq8 11 ks.length rfl ?_
  intro i hi0
  by_cases hi : i < ks.length
  · obtain ⟨bx, off, k, rfl, hix, hsub⟩ := RowL.get encRx_len c3 hi
    unfold encRx at hsub
    obtain ⟨w, hw, hr⟩ := ks_at c2 c4 hix
    have hv1 := validNodes1_fn k w H hr (hws w (List.mem_of_getElem? hw))
    refine zs3 ?_; refine sv (PV.lss rfl rfl) ?_; refine so ?_; refine sq ?_; refine sC rfl (by omega) ?_; refine T.skip ?_; refine sq ?_; refine T.block ?_; refine zs3 ?_; refine sv (PV.indexAddr rfl rfl (by omega)) ?_; refine sv (PV.loadSubAll rfl (by assumption) (by exact rfl)) ?_; refine sy fun b4 => ?_; refine T.storeA Wanted.none rfl rfl zq8 (by exact rfl) zq14 zq13 ?_; refine zs1 ?_; refine sv (PV.loadAll rfl zq0 (by exact rfl)) ?_; refine T.callV Wanted.none rfl rfl (hv1) ?_; refine sv (PV.not rfl) ?_; refine so ?_; refine T.condF rfl rfl ?_; refine T.skip ?_; refine T.blkEnd ?_; refine sr ?_; refine sv (PV.add rfl rfl (by omega)) ?_; refine sm ?_; refine so ?_
    exact T.nextR hi rfl zq8 (by repeat (first | exact Sel.refl _ | exact Sel.nil | (refine Sel.cons zq1 ?_) | (refine Sel.app zq1 ?_) | exact Sel.one zq1))
  · refine zs3 ?_; refine sv (PV.lss rfl rfl) ?_; refine so ?_; refine sq ?_; refine sd rfl (by omega) ?_; refine T.exit rfl ?_; refine zs3 ?_; refine sa ?_; refine so ?_
    exact T.retF (Lv.fin (RV.tmp rfl rfl) rfl)
theorem positions_fn (ad : Option Addr) (cap : Nat) (ks : List Nat) (H : Hp) (c3 : SlR H 5 (.slice ad ks.length cap) ks.length (ks.flatMap encRx)) (hl : ks.length ≤ 60) : Fn Tryz.prog 35 #[rxV 2 nlS (.slice ad ks.length cap)] H (fun u _ => u = .int .i64 (ks.length : Int)) := by
  refine Fn.of_T (vs := [rxV 2 nlS (.slice ad ks.length cap)]) Tryz.func35 rfl rfl fun _ => ?_; refine zs3 ?_; (refine T.box Wanted.none rfl rfl zq15 ?_; intro b1); refine sa ?_; refine so ?_; refine sq ?_; refine zs3 ?_; refine sf ?_; refine sl ?_; refine sv (PV.eql rfl rfl) ?_; refine so ?_; refine T.condF rfl rfl ?_; refine T.skip ?_; refine zs3 ?_; refine sa ?_; refine so ?_; refine sq ?_; refine zs3 ?_; refine sf ?_; refine sl ?_; refine sv (PV.lenSl rfl) ?_; refine sm ?_; refine so ?_; refine T.block ?_; refine T.loopK [(11, Value.int IntKind.i64 (↑ks.length : Int)), (10, Value.slice ad ks.length cap), (1, Value.pointer (some { block := b1, off := 0 }))] zq8 (γ := Nat) (fun g => g ≤ ks.length) (fun g => [(12, .int .i64 (g : Int)), (3, .int .i64 (g : Int))]) (fun _ => _) (fun _ => H) (fun g => ks.length - g) 0 (Nat.zero_le _) zq8 (Sel.refl _) rfl ?_
  intro i hi0
  by_cases hi : i < ks.length
  · obtain ⟨bx, off, k, rfl, hix, hsub⟩ := RowL.get encRx_len c3 hi
    unfold encRx at hsub
    have hp := positions1_fn k H
    have hm : min ((i : Int) + 1) 65 = (i : Int) + 1 := by omega
    refine zs3 ?_; refine sv (PV.lss rfl rfl) ?_; refine so ?_; refine sq ?_; refine sC rfl (by omega) ?_; refine T.skip ?_; refine sq ?_; refine T.block ?_; refine zs3 ?_; refine sv (PV.indexAddr rfl rfl (by omega)) ?_; refine sv (PV.loadSubAll rfl (by assumption) (by exact rfl)) ?_; refine sy fun b5 => ?_; refine T.storeA Wanted.none rfl rfl zq8 (by exact rfl) zq14 zq13 ?_; refine zs2 ?_; refine sm ?_; refine sv (PV.loadAll rfl zq0 (by exact rfl)) ?_; refine T.callV Wanted.none rfl rfl (hp) ?_; refine sv (PV.add rfl rfl (by omega)) ?_; refine sv (PV.min2 rfl rfl) ?_; refine sa ?_; refine so ?_; refine T.blkEnd ?_; refine sr ?_; refine sv (PV.add rfl rfl (by omega)) ?_; refine sm ?_; refine so ?_
    rw [hm]
    exact T.nextP (i + 1) (by omega) (by omega) zq8 (by repeat (first | exact Sel.refl _ | exact Sel.nil | (refine Sel.cons zq1 ?_) | (refine Sel.app zq1 ?_) | exact Sel.one zq1)) rfl
  · obtain rfl : i = ks.length := by omega
    refine zs3 ?_; refine sv (PV.lss rfl rfl) ?_; refine so ?_; refine sq ?_; refine sd rfl (by omega) ?_; refine T.exit rfl ?_; refine sq ?_; refine T.block ?_; refine zs3 ?_; refine sf ?_; refine sl ?_; refine sv (PV.neq rfl rfl) ?_; refine sa ?_; refine so ?_; refine T.condT rfl rfl ?_; refine zs3 ?_; refine sm ?_; refine sa ?_; refine so ?_
    exact T.retF (Lv.fin (RV.tmp rfl rfl) (by congr 1))
theorem validate_rx (e : Value) (ws : List Nat) (H : Hp) (he : LitR H e ws) (hws : ∀ w ∈ ws, sc w) (hl : ws.length ≤ 60) : Fn Tryz.prog 18 #[e] H (fun u _ => u = .int .i64 0) := by
  have hsm := fun b => small_fn e ws b H he (by omega)
  cases he with
  | @one k w hk =>
    have hvn := validNodes1_fn k w H hk (hws w List.mem_cons_self)
    have hp := positions1_fn k H
    refine Fn.of_T (vs := [rxV 1 (rg1 k) nlS]) Tryz.func18 rfl rfl fun _ => ?_; refine zs3 ?_; (refine T.box Wanted.none rfl rfl zq15 ?_; intro b1); refine sa ?_; refine zs1 ?_; refine sy fun b3 => ?_; refine T.store1 Wanted.none rfl rfl rfl zq14 zq13 ?_; refine so ?_; refine sq ?_; refine T.block ?_; refine zs3 ?_; refine sv (PV.loadAll rfl zq0 (by exact rfl)) ?_; refine T.callW Wanted.none rfl rfl (hsm b3) zq1 ?_
    rintro _ H1 l1 hle ⟨rfl, rfl, n, rfl⟩
    refine sv (PV.not rfl) ?_; refine sa ?_; refine so ?_; refine T.condF rfl rfl ?_; refine zs3 ?_; refine sv (PV.loadAll rfl zq0 (by exact rfl)) ?_; refine T.callV Wanted.none rfl rfl (hvn) ?_; refine sv (PV.not rfl) ?_; refine sa ?_; refine so ?_; refine T.condF rfl rfl ?_; refine zs3 ?_; refine sv (PV.loadAll rfl zq0 (by exact rfl)) ?_; refine T.callV Wanted.none rfl rfl (hp) ?_; refine sv (PV.gtr rfl rfl) ?_; refine sa ?_; refine so ?_; refine T.condF rfl rfl ?_; refine T.skip ?_; refine T.blkEnd ?_; refine zs3 ?_; refine sa ?_; refine so ?_
    exact T.retF (Lv.fin (RV.tmp rfl rfl) rfl)
  | @cat ad cap ks _ c1 c2 c3 c4 =>
    have hvn := validNodes_fn ad cap ks ws H c1 c2 c3 c4 hws (by omega)
    have hp := positions_fn ad cap ks H c3 (by omega)
    refine Fn.of_T (vs := [rxV 2 nlS (.slice ad ks.length cap)]) Tryz.func18 rfl rfl fun _ => ?_; refine zs3 ?_; (refine T.box Wanted.none rfl rfl zq15 ?_; intro b1); refine sa ?_; refine zs1 ?_; refine sy fun b3 => ?_; refine T.store1 Wanted.none rfl rfl rfl zq14 zq13 ?_; refine so ?_; refine sq ?_; refine T.block ?_; refine zs3 ?_; refine sv (PV.loadAll rfl zq0 (by exact rfl)) ?_; refine T.callW Wanted.none rfl rfl (hsm b3) zq1 ?_
    rintro _ H1 l1 hle ⟨rfl, rfl, n, rfl⟩
    refine sv (PV.not rfl) ?_; refine sa ?_; refine so ?_; refine T.condF rfl rfl ?_; refine zs3 ?_; refine sv (PV.loadAll rfl zq0 (by exact rfl)) ?_; refine T.callV Wanted.none rfl rfl (hvn) ?_; refine sv (PV.not rfl) ?_; refine sa ?_; refine so ?_; refine T.condF rfl rfl ?_; refine zs3 ?_; refine sv (PV.loadAll rfl zq0 (by exact rfl)) ?_; refine T.callV Wanted.none rfl rfl (hp) ?_; refine sv (PV.gtr rfl rfl) ?_; refine sa ?_; refine so ?_; refine sd rfl (by omega) ?_; refine T.skip ?_; refine T.blkEnd ?_; refine zs3 ?_; refine sa ?_; refine so ?_
    exact T.retF (Lv.fin (RV.tmp rfl rfl) rfl)
end Go.Proofs.YtpjdhokpfccahaaGreatDoor
