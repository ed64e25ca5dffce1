/- any corpus in memory: regions, heads.
   any corpus in memory: constituents.
   any corpus in memory: Valid. -/
import Derived.Test.YtecogbhbkccblaaGreatDoorGC
set_option maxRecDepth 4000
set_option maxHeartbeats 40000000
set_option linter.all false
namespace Go.Proofs.YtecogbhbkccblaaGreatDoor
open Go.RowKit


theorem regionsA_fn (c : Cp) (H : Hp) (hc : CpA H c) : Fn Tryz.prog 96 #[cpV c] H (fun u _ => ∃ n m : Int, u = .tuple #[.int .i64 n, .int .i64 m] ∧ (m = 0 → ∀ r ∈ c.rg, inTx c r.b r.e)) := by
  have hwi := fun b e => withinA_fn c b e H hc
  obtain ⟨aa, ca, at1, ct, ax, cx, ar, cr, an, cn, ah, ch, as1, cs, hcv, ha, ht, hx, hr, hn, hh, hs⟩ := hc.open; rw [hcv]; have hla := hc.la; have hlt := hc.lt; have hlx := hc.lx; have hlr := hc.lr; have hln := hc.ln; have hlh := hc.lh; have hls := hc.ls
  rw [hcv] at hwi
  have hcapr := hr.1.cap
  refine Fn.of_T (vs := [.agg #[.slice aa c.att.length ca, .slice at1 c.tk.length ct, .slice ax c.tx.length cx, .slice ar c.rg.length cr, .slice an c.nd.length cn, .slice ah c.hd.length ch, .slice as1 c.rl.length cs]]) Tryz.func96 rfl rfl fun w => ?_; refine zs3 ?_; (refine T.box Wanted.none rfl rfl zq15 ?_; intro b1); refine J22 ?_; refine T.loopC [(16, Value.int IntKind.i64 (↑c.rg.length : Int)), (15, Value.slice ar c.rg.length cr), (1, Value.pointer (some { block := b1, off := 0 }))] zq8 17 c.rg.length (fun i => ∀ (j : Nat) (r : Rg), j < i → c.rg[j]? = some r → inTx c r.b r.e) (fun _ _ h => absurd h zO) rfl ?_
  rintro i ⟨hi0, hd⟩
  by_cases hi : i < c.rg.length
  · obtain ⟨bx, off, x, rfl, hix, hsub⟩ := RowL.get encRg_len hr.1 hi
    unfold encRg at hsub
    have hxo := hr.2 x (List.mem_of_getElem? hix)
    obtain ⟨am, cm, hmv⟩ := hxo.1.len
    rw [hmv] at hsub
    have hp := pairsA_fn x.ks x.kv H hxo
    rw [hmv] at hp
    refine J13 ?_; refine yq20 ?_; refine sy fun b5 => ?_; refine sa ?_; refine yq2 ?_; refine J7 ?_; refine T.callX Wanted.none rfl rfl ((name4_fn _ _).mono (R' := fun u _ => IsB u) fun u _ h => ⟨_, h⟩) ?_
    rintro _ ⟨q, rfl⟩
    refine J3 ?_
    refine T.cond rfl (fun hc0 => ?_) (fun hc0 => ?_)
    · refine J6 ?_
      exact T.retF (Lv.fin (RV.tmp2 rfl rfl rfl) ⟨_, _, rfl, fun h => by cases h⟩)
    refine J7 ?_; refine T.callX Wanted.none rfl rfl (hwi _ _) ?_
    rintro _ ⟨q2, rfl, hq2⟩
    refine J3 ?_
    refine T.cond rfl (fun hc1 => ?_) (fun hc1 => ?_)
    · refine J6 ?_
      exact T.retF (Lv.fin (RV.tmp2 rfl rfl rfl) ⟨_, _, rfl, fun h => by cases h⟩)
    refine J7 ?_; refine T.callX Wanted.none rfl rfl hp ?_
    rintro _ ⟨n, rfl⟩
    refine J7 ?_
    refine T.condD rfl (fun hc2 => ?_) (fun hc2 => ?_)
    · refine J7 ?_
      exact T.retF (Lv.fin (RV.tmp2 rfl rfl rfl) ⟨_, _, rfl, fun h => absurd h zO⟩)
    have hin : inTx c x.b x.e := hq2 (by simpa using hc1)
    refine T.skip ?_
    (repeat refine sq ?_)
    refine T.cutB [(4, Value.int IntKind.i64 (↑i : Int)), (5, Value.pointer (some { block := b5, off := 0 })), (17, Value.int IntKind.i64 (↑i : Int)), (16, Value.int IntKind.i64 (↑c.rg.length : Int)), (15, Value.slice (some { block := bx, off := off }) c.rg.length cr), (1, Value.pointer (some { block := b1, off := 0 }))] 56 ?_ fun K => ?_
    rotate_left
    · by_cases h0 : 0 < i
      · obtain ⟨_, _, y, e, hy, hsub2⟩ := RowL.get encRg_len hr.1 (i := i - 1) zO
        injection e with e
        injection e with e1 e2
        subst e1 e2
        have hyo := hr.2 y (List.mem_of_getElem? hy)
        obtain ⟨am2, cm2, hmv2⟩ := hyo.1.len
        have hcall := cmpRegA_fn y x H hyo hxo
        unfold rgV at hcall
        rw [hmv, hmv2] at hcall
        unfold encRg at hsub2
        rw [hmv2] at hsub2
        have hcast : ((i : Int) - 1).toNat = i - 1 := by omega
        rw [← hcast] at hsub2
        refine yq70 ?_; refine I3 ?_; refine TQ.setT (d := 46) rfl zO ?_; refine I3 ?_; refine TQ.pv (PV.sub rfl rfl zO) (Wanted.guard rfl rfl rfl) rfl rfl ?_; refine TQ.pv (PV.indexAddr rfl rfl zO) (Wanted.guard rfl rfl rfl) rfl rfl ?_; refine TQ.pv (PV.loadSubAll rfl zA zX) (Wanted.guard rfl rfl rfl) rfl rfl ?_; refine TQ.pv (PV.loadAll rfl zq0 zX) (Wanted.guard rfl rfl rfl) rfl rfl ?_; refine TQ.callV (Wanted.guard rfl rfl rfl) rfl rfl (hcall) ?_; refine TQ.pv (PV.gtr rfl rfl) (Wanted.guard rfl rfl rfl) rfl rfl ?_; refine I2 ?_; (exact K _ _ _ zq8 zq23)
      · refine yq70 ?_; refine I3 ?_; refine TQ.setF (d := 46) rfl zO ?_; refine I11 ?_; (exact K _ _ _ zq8 zq23)
    intro q3
    skip
    refine T.cond rfl (fun hc3 => ?_) (fun hc3 => ?_)
    · refine J6 ?_
      exact T.retF (Lv.fin (RV.tmp2 rfl rfl rfl) ⟨_, _, rfl, fun h => by cases h⟩)
    refine J12 ?_; refine sv (PV.sliceH rfl rfl zO) ?_; refine J4 ?_
    have hcast : ((i : Int) + 1).toNat = i + 1 := by omega
    rw [hcast]
    refine T.loopK [(63, Value.int IntKind.i64 (↑(i + 1) : Int)), (62, Value.slice (some { block := bx, off := off }) (i + 1) cr), (4, Value.int IntKind.i64 (↑i : Int)), (5, Value.pointer (some { block := b5, off := 0 })), (17, Value.int IntKind.i64 (↑i : Int)), (16, Value.int IntKind.i64 (↑c.rg.length : Int)), (15, Value.slice (some { block := bx, off := off }) c.rg.length cr), (1, Value.pointer (some { block := b1, off := 0 }))] zq8 (γ := Nat × Nat) (fun g => g.1 ≤ i + 1 ∧ g.2 ≤ g.1) (fun g => [(64, .int .i64 (g.1 : Int)), (7, .int .i64 (g.2 : Int))]) (fun _ => _) (fun _ => H) (fun g => i + 1 - g.1) (0, 0) ⟨by simp, by simp⟩ zq8 (Sel.refl _) rfl ?_
    rintro ⟨j, d⟩ ⟨hj0, hd0⟩
    dsimp only at hj0 hd0 ⊢
    by_cases hj : j < i + 1
    · obtain ⟨_, _, y, e, hy, hsub2⟩ := RowL.get encRg_len hr.1 (i := j) zO
      injection e with e
      injection e with e1 e2
      subst e1 e2
      unfold encRg at hsub2
      obtain ⟨am2, cm2, hmv2⟩ := (hr.2 y (List.mem_of_getElem? hy)).1.len
      rw [hmv2] at hsub2
      refine J13 ?_; refine yq20 ?_; refine sy fun b9 => ?_; refine sa ?_; refine yq2 ?_; refine so ?_
      (repeat refine sq ?_)
      refine T.cutB [(8, Value.int IntKind.i64 (↑j : Int)), (9, Value.pointer (some { block := b9, off := 0 })), (64, Value.int IntKind.i64 (↑j : Int)), (7, Value.int IntKind.i64 (↑d : Int)), (63, Value.int IntKind.i64 (↑(i + 1) : Int)), (62, Value.slice (some { block := bx, off := off }) (i + 1) cr), (4, Value.int IntKind.i64 (↑i : Int)), (5, Value.pointer (some { block := b5, off := 0 })), (17, Value.int IntKind.i64 (↑i : Int)), (16, Value.int IntKind.i64 (↑c.rg.length : Int)), (15, Value.slice (some { block := bx, off := off }) c.rg.length cr), (1, Value.pointer (some { block := b1, off := 0 }))] 80 ?_ fun K => ?_
      rotate_left
      · refine J7 ?_
        refine T.splitD (d := 74) rfl (fun h0 => ?_) (fun h0 => ?_)
        · refine J7 ?_; (exact K _ _ _ zq8 zq23)
        · refine J7 ?_; (exact K _ _ _ zq8 zq23)
      intro q4
      refine T.cutG [(8, Value.int IntKind.i64 (↑j : Int)), (9, Value.pointer (some { block := b9, off := 0 })), (64, Value.int IntKind.i64 (↑j : Int)), (63, Value.int IntKind.i64 (↑(i + 1) : Int)), (62, Value.slice (some { block := bx, off := off }) (i + 1) cr), (4, Value.int IntKind.i64 (↑i : Int)), (5, Value.pointer (some { block := b5, off := 0 })), (17, Value.int IntKind.i64 (↑i : Int)), (16, Value.int IntKind.i64 (↑c.rg.length : Int)), (15, Value.slice (some { block := bx, off := off }) c.rg.length cr), (1, Value.pointer (some { block := b1, off := 0 }))] (γ := Nat) (fun d => d ≤ j + 1) (fun d => [(7, .int .i64 (d : Int))]) ?_ fun K => ?_
      rotate_left
      · refine T.cond rfl (fun hc4 => ?_) (fun hc4 => ?_)
        · refine J5 ?_; (exact K (d + 1) _ _ zO zq8 (Sel.refl _))
        · refine T.skip ?_; (exact K d _ _ zO zq8 (Sel.refl _))
      intro d2 hd2
      skip
      (repeat refine sq ?_)
      refine T.cutB [(7, Value.int IntKind.i64 (↑d2 : Int)), (64, Value.int IntKind.i64 (↑j : Int)), (63, Value.int IntKind.i64 (↑(i + 1) : Int)), (62, Value.slice (some { block := bx, off := off }) (i + 1) cr), (4, Value.int IntKind.i64 (↑i : Int)), (5, Value.pointer (some { block := b5, off := 0 })), (17, Value.int IntKind.i64 (↑i : Int)), (16, Value.int IntKind.i64 (↑c.rg.length : Int)), (15, Value.slice (some { block := bx, off := off }) c.rg.length cr), (1, Value.pointer (some { block := b1, off := 0 }))] 136 ?_ fun K => ?_
      rotate_left
      · refine J5 ?_
        refine T.splitD (d := 86) rfl (fun h0 => ?_) (fun h0 => ?_)
        · refine J4 ?_; refine gv (PV.seql rfl rfl) ?_; refine J2 ?_
          refine T.splitD (d := 93) rfl (fun h1 => ?_) (fun h1 => ?_)
          · refine J7 ?_
            refine T.splitD (d := 100) rfl (fun h2 => ?_) (fun h2 => ?_)
            · refine J7 ?_
              refine T.splitD (d := 107) rfl (fun h3 => ?_) (fun h3 => ?_)
              · refine J6 ?_
                refine T.splitD (d := 113) rfl (fun h4 => ?_) (fun h4 => ?_)
                · refine J9 ?_
                  refine T.splitB (d := 122) rfl (fun h5 => ?_) (fun h5 => ?_)
                  · refine J6 ?_
                    refine T.splitD (d := 128) rfl (fun h6 => ?_) (fun h6 => ?_)
                    · refine J9 ?_; (exact K _ _ _ zq8 zq23)
                    · refine J9 ?_; (exact K _ _ _ zq8 zq23)
                  · refine J15 ?_; (exact K _ _ _ zq8 zq23)
                · refine J15 ?_; refine T.setT (d := 128) rfl zO ?_; refine J9 ?_; (exact K _ _ _ zq8 zq23)
              · refine J30 ?_; (exact K _ _ _ zq8 zq23)
            · refine J37 ?_; (exact K _ _ _ zq8 zq23)
          · refine J40 ?_
            refine J4 ?_; (exact K _ _ _ zq8 zq23)
        · refine J40 ?_
          refine J11 ?_; (exact K _ _ _ zq8 zq23)
      intro q5
      skip
      refine T.cond rfl (fun hc4 => ?_) (fun hc4 => ?_)
      · refine J6 ?_
        exact T.retF (Lv.fin (RV.tmp2 rfl rfl rfl) ⟨_, _, rfl, fun h => by cases h⟩)
      refine J6 ?_
      exact T.nextP (j + 1, d2) ⟨by dsimp only; omega, by dsimp only; omega⟩ zE zq8 zq23 rfl
    · by_cases hdl : 40 < d
      · refine J19 ?_
        exact T.retF (Lv.fin (RV.tmp2 rfl rfl rfl) ⟨_, _, rfl, fun h => by cases h⟩)
      refine J19 ?_
      refine T.nextC hi (fun k t hk1 hkt => ?_) rfl zq8 zq23
      by_cases hkk : k < i
      · exact hd k t hkk hkt
      · obtain rfl : k = i := by omega
        rw [hix] at hkt; cases hkt
        exact hin
  · refine J12 ?_
    exact T.retF (Lv.fin (RV.tmp2 rfl rfl rfl) ⟨_, _, rfl, fun _ r hr2 => by
      obtain ⟨k, hk⟩ := List.getElem?_of_mem hr2
      exact hd k r (by have := (List.getElem?_eq_some_iff.1 hk).1; omega) hk⟩)
theorem bareA_fn (l : List Int) (m : List ByteArray) (u v : Value) (H : Hp) (hu : InL H u l) (hv : StL H v m) (hlm : l.length = m.length) (hlb : l.length ≤ 9223372036854775807) : Fn Tryz.prog 156 #[u, v] H (fun u _ => IsB u) := by
  obtain ⟨au, cu, rfl⟩ := hu.len
  obtain ⟨av, cv, rfl⟩ := hv.len
  refine Fn.of_T (vs := [.slice au l.length cu, .slice av m.length cv]) Tryz.func156 rfl rfl fun w => ?_; refine J12 ?_; refine T.loopR [(7, Value.int IntKind.i64 (↑l.length : Int)), (0, Value.slice au l.length cu), (1, Value.slice av m.length cv)] zq8 8 l.length rfl ?_
  intro i hi0
  by_cases hi : i < l.length
  · obtain ⟨b, off, x, rfl, hix, hsub⟩ := RowL.get encI_len hu hi
    obtain ⟨b2, off2, y, rfl, hiy, hsub2⟩ := RowL.get encT_len hv (i := i) zO
    unfold encI at hsub
    unfold encT at hsub2
    by_cases h1 : x ≠ -1
    · refine J19 ?_; refine yq10 ?_; refine J2 ?_; refine T.setT (d := 16) rfl zO ?_; refine J12 ?_
      exact T.retF (Lv.fin (RV.tmp rfl rfl) ⟨_, rfl⟩)
    · refine J19 ?_; refine yq10 ?_; refine J2 ?_; refine T.setF (d := 16) rfl zO ?_; refine J3 ?_; refine gv (PV.loadSub0 rfl zA) ?_; refine gv (PV.sneq rfl rfl) ?_; refine J2 ?_
      refine T.condD rfl (fun h0 => ?_) (fun h0 => ?_)
      · refine J4 ?_
        (first | exact T.retF (Lv.fin (RV.tmp rfl rfl) ⟨_, rfl⟩) | exact T.nextR zO rfl zq8 zq23)
      · refine J6 ?_
        (first | exact T.retF (Lv.fin (RV.tmp rfl rfl) ⟨_, rfl⟩) | exact T.nextR zO rfl zq8 zq23)
  · refine J11 ?_
    exact T.retF (Lv.fin (RV.tmp rfl rfl) ⟨_, rfl⟩)
theorem cyclicA_fn (l : List Int) (u : Value) (p : Int) (H : Hp) (hu : InL H u l) (hp : 0 ≤ p ∧ p < l.length) (hlb : l.length ≤ 9223372036854775807) : Fn Tryz.prog 158 #[u, .int .i64 p] H (fun u _ => IsB u) := by
  obtain ⟨au, cu, rfl⟩ := hu.len
  refine Fn.of_T (vs := [.slice au l.length cu, .int .i64 p]) Tryz.func158 rfl rfl fun w => ?_; refine J17 ?_; refine T.loopK [(8, Value.int IntKind.i64 (↑l.length : Int)), (0, Value.slice au l.length cu), (1, Value.int IntKind.i64 p)] zq8 (γ := Nat × Int) (fun g => g.1 ≤ l.length ∧ 0 ≤ g.2 ∧ g.2 < l.length) (fun g => [(9, .int .i64 (g.1 : Int)), (5, .int .i64 g.2)]) (fun _ => []) (fun _ => H) (fun g => l.length - g.1) (0, p) ⟨by simp, hp.1, hp.2⟩ zq8 (Sel.refl _) rfl ?_
  rintro ⟨i, q⟩ ⟨hi0, hq0, hq1⟩
  dsimp only at hi0 hq0 hq1 ⊢
  by_cases hi : i < l.length
  · obtain ⟨b, off, x, rfl, hix, hsub⟩ := RowL.get encI_len hu (i := q.toNat) zO
    unfold encI at hsub
    by_cases h1 : x < 0
    · refine J14 ?_; refine yq10 ?_; refine J8 ?_; refine T.setT (d := 17) rfl zO ?_; refine J11 ?_
      exact T.retF (Lv.fin (RV.tmp rfl rfl) ⟨_, rfl⟩)
    · by_cases h2 : (l.length : Int) ≤ x
      · refine J14 ?_; refine yq10 ?_; refine J8 ?_; refine T.setF (d := 17) rfl zO ?_; refine J11 ?_
        exact T.retF (Lv.fin (RV.tmp rfl rfl) ⟨_, rfl⟩)
      · refine J14 ?_; refine yq10 ?_; refine J8 ?_; refine T.setF (d := 17) rfl zO ?_; refine J14 ?_
        refine T.condD rfl (fun hc4 => ?_) (fun hc4 => ?_)
        · refine J4 ?_
          exact T.retF (Lv.fin (RV.tmp rfl rfl) ⟨_, rfl⟩)
        · refine J6 ?_
          exact T.nextP (i + 1, x) ⟨by dsimp only; omega, by dsimp only; omega, by dsimp only; omega⟩ zE zq8 zq23 rfl
  · refine J11 ?_
    exact T.retF (Lv.fin (RV.tmp rfl rfl) ⟨_, rfl⟩)
theorem heads6A_fn (c : Cp) (H : Hp) (hc : CpA H c) : Fn Tryz.prog 98 #[cpV c] H (fun u _ => IsII u) := by
  have hta := fun p => textAtA_fn c p H hc
  obtain ⟨aa, ca, at1, ct, ax, cx, ar, cr, an, cn, ah, ch, as1, cs, hcv, ha, ht, hx, hr, hn, hh, hs⟩ := hc.open; rw [hcv]; have hla := hc.la; have hlt := hc.lt; have hlx := hc.lx; have hlr := hc.lr; have hln := hc.ln; have hlh := hc.lh; have hls := hc.ls
  rw [hcv] at hta
  refine Fn.of_T (vs := [.agg #[.slice aa c.att.length ca, .slice at1 c.tk.length ct, .slice ax c.tx.length cx, .slice ar c.rg.length cr, .slice an c.nd.length cn, .slice ah c.hd.length ch, .slice as1 c.rl.length cs]]) Tryz.func98 rfl rfl fun w => ?_
  by_cases h1 : c.hd.length ≠ c.rl.length
  · refine zs3 ?_; (refine T.box Wanted.none rfl rfl zq15 ?_; intro b1); refine J19 ?_; refine T.setT (d := 15) rfl zO ?_; refine J17 ?_
    exact T.retF (Lv.fin (RV.tmp2 rfl rfl rfl) ⟨_, _, rfl⟩)
  refine zs3 ?_; (refine T.box Wanted.none rfl rfl zq15 ?_; intro b1); refine J10 ?_
  (repeat refine sq ?_)
  refine T.cutB [(4, Value.int IntKind.i64 (↑c.hd.length : Int)), (1, Value.pointer (some { block := b1, off := 0 }))] 25 ?_ fun K => ?_
  rotate_left
  · refine J7 ?_; refine T.setF (d := 15) rfl zO ?_; refine J3 ?_
    refine T.splitD (d := 18) rfl (fun h0 => ?_) (fun h0 => ?_)
    · refine J8 ?_; (exact K _ _ _ zq8 zq23)
    · refine J8 ?_; (exact K _ _ _ zq8 zq23)
  intro q0
  skip
  refine T.cond rfl (fun hc0 => ?_) (fun hc0 => ?_)
  · refine J5 ?_
    exact T.retF (Lv.fin (RV.tmp2 rfl rfl rfl) ⟨_, _, rfl⟩)
  refine T.skip ?_
  (repeat refine sq ?_)
  refine T.cutB [(4, Value.int IntKind.i64 (↑c.hd.length : Int)), (1, Value.pointer (some { block := b1, off := 0 }))] 34 ?_ fun K => ?_
  rotate_left
  · by_cases h3 : c.hd.length = 0
    · refine J4 ?_; refine T.setF (d := 28) rfl zO ?_; refine J7 ?_; (exact K _ _ _ zq8 zq23)
    · refine J4 ?_; refine T.setT (d := 28) rfl zO ?_; refine J4 ?_; (refine T.callX (Wanted.guard rfl rfl rfl) rfl rfl (bareA_fn c.hd c.rl _ _ H hh hs zO hlh) ?_; rintro _ ⟨b33, rfl⟩); refine J2 ?_; (exact K _ _ _ zq8 zq23)
  intro q
  skip
  refine T.cond rfl (fun hc0 => ?_) (fun hc0 => ?_)
  · refine J5 ?_
    exact T.retF (Lv.fin (RV.tmp2 rfl rfl rfl) ⟨_, _, rfl⟩)
  refine J10 ?_; refine T.loopR [(37, Value.int IntKind.i64 (↑c.hd.length : Int)), (36, Value.slice ah c.hd.length ch), (4, Value.int IntKind.i64 (↑c.hd.length : Int)), (1, Value.pointer (some { block := b1, off := 0 }))] zq8 38 c.hd.length rfl ?_
  intro i hi0
  by_cases hi : i < c.hd.length
  · obtain ⟨b, off, x, rfl, hix, hsub⟩ := RowL.get encI_len hh hi
    obtain ⟨b2, off2, y, rfl, hiy, hsub2⟩ := RowL.get encT_len hs (i := i) zO
    unfold encI at hsub
    unfold encT at hsub2
    refine J13 ?_; refine yq10 ?_; refine J3 ?_
    (repeat refine sq ?_)
    refine T.cutB [(5, Value.int IntKind.i64 (↑i : Int)), (38, Value.int IntKind.i64 (↑i : Int)), (37, Value.int IntKind.i64 (↑c.hd.length : Int)), (36, Value.slice (some { block := b, off := off }) c.hd.length ch), (4, Value.int IntKind.i64 (↑c.hd.length : Int)), (1, Value.pointer (some { block := b1, off := 0 }))] 62 ?_ fun K => ?_
    rotate_left
    · refine yq70 ?_; refine TQ.pv (PV.move rfl) Wanted.none rfl rfl ?_; refine TQ.pv (PV.neq rfl rfl) Wanted.none rfl rfl ?_; refine TQ.pv (PV.move rfl) Wanted.none rfl rfl ?_
      refine TQ.splitD (d := 45) rfl (fun h0 => ?_) (fun h0 => ?_)
      · refine TQ.pv (PV.move rfl) (Wanted.guard rfl rfl rfl) rfl rfl ?_; refine TQ.pv (PV.lss rfl rfl) (Wanted.guard rfl rfl rfl) rfl rfl ?_; refine TQ.pv (PV.move rfl) (Wanted.guard rfl rfl rfl) rfl rfl ?_
        refine TQ.splitD (d := 48) rfl (fun h1 => ?_) (fun h1 => ?_)
        · refine I15 ?_; (exact K _ _ _ zq8 zq23)
        · refine I2 ?_; refine TQ.pv (PV.geq rfl rfl) (Wanted.guard rfl rfl rfl) rfl rfl ?_; refine TQ.pv (PV.pickF rfl rfl rfl) (Wanted.guard rfl rfl rfl) rfl rfl ?_; refine TQ.pv (PV.move rfl) (Wanted.guard rfl rfl rfl) rfl rfl ?_
          refine TQ.splitD (d := 53) rfl (fun h2 => ?_) (fun h2 => ?_)
          · refine I10 ?_; (exact K _ _ _ zq8 zq23)
          · refine I2 ?_; refine TQ.callV (Wanted.guard rfl rfl rfl) rfl rfl (hta _) ?_; refine I2 ?_; refine TQ.callV (Wanted.guard rfl rfl rfl) rfl rfl (hta _) ?_; refine TQ.pv (PV.neq rfl rfl) (Wanted.guard rfl rfl rfl) rfl rfl ?_; refine TQ.pv (PV.pickF rfl rfl rfl) (Wanted.guard rfl rfl rfl) rfl rfl ?_; refine I2 ?_; (exact K _ _ _ zq8 zq23)
      · refine I18 ?_; (exact K _ _ _ zq8 zq23)
    intro q2
    skip
    refine T.cond rfl (fun hc0 => ?_) (fun hc0 => ?_)
    · refine J6 ?_
      exact T.retF (Lv.fin (RV.tmp2 rfl rfl rfl) ⟨_, _, rfl⟩)
    refine T.skip ?_
    (repeat refine sq ?_)
    refine T.cutB [(5, Value.int IntKind.i64 (↑i : Int)), (38, Value.int IntKind.i64 (↑i : Int)), (37, Value.int IntKind.i64 (↑c.hd.length : Int)), (36, Value.slice (some { block := b, off := off }) c.hd.length ch), (4, Value.int IntKind.i64 (↑c.hd.length : Int)), (1, Value.pointer (some { block := b1, off := 0 }))] 78 ?_ fun K => ?_
    rotate_left
    · refine J5 ?_; refine yq10 ?_; refine J2 ?_
      refine T.splitD (d := 70) rfl (fun h0 => ?_) (fun h0 => ?_)
      · refine J4 ?_; refine gv (PV.loadSub0 rfl zA) ?_; (refine T.callX (Wanted.guard rfl rfl rfl) rfl rfl ((name4_fn _ _).mono (R' := fun u _ => IsB u) fun u _ h => ⟨_, h⟩) ?_; rintro _ ⟨b76, rfl⟩); refine J3 ?_; (exact K _ _ _ zq8 zq23)
      · refine J9 ?_; (exact K _ _ _ zq8 zq23)
    intro q3
    skip
    refine T.cond rfl (fun hc0 => ?_) (fun hc0 => ?_)
    · refine J6 ?_
      exact T.retF (Lv.fin (RV.tmp2 rfl rfl rfl) ⟨_, _, rfl⟩)
    refine J6 ?_; refine T.callX Wanted.none rfl rfl (cyclicA_fn c.hd _ (i : Int) H hh zO hlh) ?_
    rintro _ ⟨q4, rfl⟩
    refine so ?_
    refine T.cond rfl (fun hc0 => ?_) (fun hc0 => ?_)
    · refine J6 ?_
      exact T.retF (Lv.fin (RV.tmp2 rfl rfl rfl) ⟨_, _, rfl⟩)
    · refine J6 ?_
      exact T.nextR zO rfl zq8 zq23
  · refine J12 ?_
    exact T.retF (Lv.fin (RV.tmp2 rfl rfl rfl) ⟨_, _, rfl⟩)

end Go.Proofs.YtecogbhbkccblaaGreatDoor
namespace Go.Proofs.YtecogbhbkccblaaGreatDoor
open Go.RowKit


theorem nodes6A_fn (c : Cp) (H : Hp) (hc : CpA H c) : Fn Tryz.prog 97 #[c.vn, cpV c] H (fun u _ => IsII u) := by
  have hwi := fun b e => (withinA_fn c b e H hc).mono (R' := fun u _ => IsB u) fun u _ h => ⟨h.choose, h.choose_spec.1⟩
  have hcn := hc.n
  obtain ⟨an', cn', hve⟩ := hcn.len
  rw [hve] at hcn ⊢
  obtain ⟨aa, ca, at1, ct, ax, cx, ar, cr, an, cn, ah, ch, as1, cs, hcv, ha, ht, hx, hr, hn, hh, hs⟩ := hc.open; rw [hcv]; have hla := hc.la; have hlt := hc.lt; have hlx := hc.lx; have hlr := hc.lr; have hln := hc.ln; have hlh := hc.lh; have hls := hc.ls
  rw [hcv] at hwi
  refine Fn.of_T (vs := [.slice an' c.nd.length cn', .agg #[.slice aa c.att.length ca, .slice at1 c.tk.length ct, .slice ax c.tx.length cx, .slice ar c.rg.length cr, .slice an c.nd.length cn, .slice ah c.hd.length ch, .slice as1 c.rl.length cs]]) Tryz.func97 rfl rfl fun w => ?_; refine zs3 ?_; (refine T.box Wanted.none rfl rfl zq15 ?_; intro b3); refine J16 ?_; refine T.makeSliceN (n := c.nd.length) Wanted.none rfl rfl rfl zO ?_
  intro v lv hv
  obtain ⟨ad, cap, rfl⟩ := hv.val
  rw [show (List.replicate c.nd.length [Value.int .i64 0]).flatten = (List.replicate c.nd.length 0).flatMap encI by simp [List.flatMap, encI]] at hv
  refine J10 ?_; refine T.loopK [(19, Value.int IntKind.i64 (↑c.nd.length : Int)), (18, Value.slice an' c.nd.length cn'), (6, Value.slice ad c.nd.length cap), (3, Value.pointer (some { block := b3, off := 0 })), (0, Value.slice an' c.nd.length cn')] zq8 (γ := DeG) (fun g => g.i ≤ c.nd.length ∧ Vec 3 1 (.slice ad c.nd.length cap) g.lv c.nd.length (g.l.flatMap encI) ∧ g.l.length = c.nd.length ∧ (∀ d ∈ g.l, 0 ≤ d ∧ d ≤ 40) ∧ (∀ (k : Nat) (y : Nd), k < g.i → c.nd[k]? = some y → -1 ≤ y.p ∧ y.p < k)) (fun g => [(20, .int .i64 (g.i : Int))]) (fun g => g.lv ++ [(b3, .cells #[.slice aa c.att.length ca, .slice at1 c.tk.length ct, .slice ax c.tx.length cx, .slice ar c.rg.length cr, .slice an c.nd.length cn, .slice ah c.hd.length ch, .slice as1 c.rl.length cs] 30 (0, 0))]) (fun _ => H) (fun g => c.nd.length - g.i) ⟨0, lv, List.replicate c.nd.length 0⟩ ⟨by simp, hv, by simp, fun d hd => by rw [List.eq_of_mem_replicate hd]; omega, fun k y hk => absurd hk (Nat.not_lt_zero k)⟩ zq8 zq23 rfl ?_
  rintro ⟨i, lv, l⟩ ⟨g1, g2, g3, g4, g5⟩
  dsimp only at g1 g2 g3 g4 g5 ⊢
  by_cases hi : i < c.nd.length
  · obtain ⟨bx, off, x, rfl, hix, hsub⟩ := RowL.get encNd_len hcn hi
    unfold encNd at hsub
    refine J13 ?_; refine yq20 ?_; refine sy fun b8 => ?_; refine sa ?_; refine yq2 ?_; refine J7 ?_; (refine T.callX Wanted.none rfl rfl ((name4_fn _ _).mono (R' := fun u _ => IsB u) fun u _ h => ⟨_, h⟩) ?_; rintro _ ⟨b28, rfl⟩); refine J3 ?_
    refine T.cond rfl (fun hc0 => ?_) (fun hc0 => ?_)
    · refine J6 ?_
      exact T.retF (Lv.fin (RV.tmp2 rfl rfl rfl) ⟨_, _, rfl⟩)
    refine J7 ?_; refine T.callX Wanted.none rfl rfl (hwi _ _) ?_
    rintro _ ⟨q2, rfl⟩
    refine J3 ?_
    refine T.cond rfl (fun hc1 => ?_) (fun hc1 => ?_)
    · refine J6 ?_
      exact T.retF (Lv.fin (RV.tmp2 rfl rfl rfl) ⟨_, _, rfl⟩)
    refine J10 ?_
    obtain ⟨cb, hcb⟩ : ∃ z, z = (b3, Obj.cells #[.slice aa c.att.length ca, .slice at1 c.tk.length ct, .slice ax c.tx.length cx, .slice ar c.rg.length cr, .slice an c.nd.length cn, .slice ah c.hd.length ch, .slice as1 c.rl.length cs] 30 (0, 0)) := ⟨_, rfl⟩
    refine T.cut2G [(7, Value.int IntKind.i64 (↑i : Int)), (8, Value.pointer (some { block := b8, off := 0 })), (20, Value.int IntKind.i64 (↑i : Int)), (19, Value.int IntKind.i64 (↑c.nd.length : Int)), (18, Value.slice (some { block := bx, off := off }) c.nd.length cn'), (6, Value.slice ad c.nd.length cap), (3, Value.pointer (some { block := b3, off := 0 })), (0, Value.slice (some { block := bx, off := off }) c.nd.length cn')] (γ := Int) (fun k => (k = x.p ∨ k < 0) ∧ -1 ≤ k ∧ k < i) (fun k => [(9, .int .i64 k)]) (fun _ => [(b8, .cells #[.string x.lb, .int .i64 x.b, .int .i64 x.e, .int .i64 x.p] 115 (0, 0))] ++ (lv ++ [cb])) ?_ fun K => ?_
    rotate_left
    · refine T.loopK [(7, Value.int IntKind.i64 (↑i : Int)), (8, Value.pointer (some { block := b8, off := 0 })), (20, Value.int IntKind.i64 (↑i : Int)), (19, Value.int IntKind.i64 (↑c.nd.length : Int)), (18, Value.slice (some { block := bx, off := off }) c.nd.length cn'), (6, Value.slice ad c.nd.length cap), (3, Value.pointer (some { block := b3, off := 0 })), (0, Value.slice (some { block := bx, off := off }) c.nd.length cn')] zq8 (γ := Int) (fun k => -1 ≤ k ∧ k < i) (fun k => [(9, .int .i64 k)]) (fun _ => _) (fun _ => H) (fun k => (k + 1).toNat) ((i : Int) - 1) ⟨by omega, by omega⟩ zq8 (Sel.refl _) rfl ?_
      rintro k ⟨k1, k2⟩
      by_cases hk : 0 ≤ k
      · obtain ⟨_, _, y, e, hy, hsub2⟩ := RowL.get encNd_len hcn (i := k.toNat) zO
        injection e with e
        injection e with e1 e2
        subst e1 e2
        obtain ⟨y2, y3⟩ := g5 k.toNat y zO hy
        unfold encNd at hsub2
        by_cases hkp : k = x.p
        · refine J6 ?_; refine T.setT (d := 44) rfl zO ?_; refine J8 ?_
          exact K k _ _ ⟨.inl hkp, by omega, by omega⟩ zq8 (hcb ▸ Sel.refl _)
        · refine J6 ?_; refine T.setT (d := 44) rfl zO ?_; refine J14 ?_; refine sv (PV.loadSub rfl zA rfl) ?_; refine J3 ?_
          exact T.nextP y.p ⟨by omega, by omega⟩ zO zq8 zq23 rfl
      · refine J6 ?_; refine T.setF (d := 44) rfl zO ?_; refine J8 ?_
        exact K k _ _ ⟨.inr zO, by omega, by omega⟩ zq8 (hcb ▸ Sel.refl _)
    rintro k ⟨hk0, hk1, hk2⟩
    by_cases hbad : k < 0 ∧ x.p ≠ -1
    · obtain ⟨hb1, hb2⟩ := hbad
      refine J6 ?_; refine T.setT (d := 57) rfl zO ?_; refine J12 ?_
      exact T.retF (Lv.fin (RV.tmp2 rfl rfl rfl) ⟨_, _, rfl⟩)
    have x2 : -1 ≤ x.p := by omega
    have x3 : x.p < i := by omega
    skip
    (repeat refine sq ?_)
    refine T.cutB [(7, Value.int IntKind.i64 (↑i : Int)), (8, Value.pointer (some { block := b8, off := 0 })), (20, Value.int IntKind.i64 (↑i : Int)), (19, Value.int IntKind.i64 (↑c.nd.length : Int)), (18, Value.slice (some { block := bx, off := off }) c.nd.length cn'), (6, Value.slice ad c.nd.length cap), (3, Value.pointer (some { block := b3, off := 0 })), (0, Value.slice (some { block := bx, off := off }) c.nd.length cn')] 61 ?_ fun K => ?_
    rotate_left
    · refine J4 ?_
      refine T.splitD (d := 57) rfl (fun h0 => ?_) (fun h0 => ?_)
      · refine J5 ?_; (exact K _ _ _ zq8 zq23)
      · refine J5 ?_; (exact K _ _ _ zq8 zq23)
    intro q5
    skip
    refine T.cond rfl (fun hc2 => ?_) (fun hc2 => ?_)
    · refine J6 ?_
      exact T.retF (Lv.fin (RV.tmp2 rfl rfl rfl) ⟨_, _, rfl⟩)
    refine J2 ?_; refine T.cutK [(7, Value.int IntKind.i64 (↑i : Int)), (8, Value.pointer (some { block := b8, off := 0 })), (20, Value.int IntKind.i64 (↑i : Int)), (19, Value.int IntKind.i64 (↑c.nd.length : Int)), (18, Value.slice (some { block := bx, off := off }) c.nd.length cn'), (6, Value.slice ad c.nd.length cap), (3, Value.pointer (some { block := b3, off := 0 })), (0, Value.slice (some { block := bx, off := off }) c.nd.length cn')] (γ := DeG) (fun g => Vec 3 1 (.slice ad c.nd.length cap) g.lv c.nd.length (g.l.flatMap encI) ∧ g.l.length = c.nd.length ∧ ∀ d ∈ g.l, 0 ≤ d ∧ d ≤ 40) (fun g => [(7, .int .i64 (i : Int))]) (fun g => [(b8, .cells #[.string x.lb, .int .i64 x.b, .int .i64 x.e, .int .i64 x.p] 115 (0, 0))] ++ (g.lv ++ [cb])) ?_ fun K => ?_
    rotate_left
    · by_cases hp : 0 ≤ x.p
      · obtain ⟨_, _, y, e, hy, hsub2⟩ := RowL.get encNd_len hcn (i := x.p.toNat) zO
        injection e with e
        injection e with e1 e2
        subst e1 e2
        unfold encNd at hsub2
        refine J13 ?_; refine yq20 ?_; refine sy fun b10 => ?_; refine yq2 ?_; refine so ?_
        (repeat refine sq ?_)
        refine T.cutB [(7, Value.int IntKind.i64 (↑i : Int)), (8, Value.pointer (some { block := b8, off := 0 })), (20, Value.int IntKind.i64 (↑i : Int)), (19, Value.int IntKind.i64 (↑c.nd.length : Int)), (18, Value.slice (some { block := bx, off := off }) c.nd.length cn'), (6, Value.slice ad c.nd.length cap), (3, Value.pointer (some { block := b3, off := 0 })), (0, Value.slice (some { block := bx, off := off }) c.nd.length cn')] 82 ?_ fun K => ?_
        rotate_left
        · refine J7 ?_
          refine T.splitD (d := 76) rfl (fun h0 => ?_) (fun h0 => ?_)
          · refine J7 ?_; (exact K _ _ _ zq8 zq23)
          · refine J7 ?_; (exact K _ _ _ zq8 zq23)
        intro q6
        skip
        refine T.cond rfl (fun hc3 => ?_) (fun hc3 => ?_)
        · refine J6 ?_
          exact T.retF (Lv.fin (RV.tmp2 rfl rfl rfl) ⟨_, _, rfl⟩)
        obtain ⟨z, hz0, _, hz⟩ := flat_at (f := fun s : Int => Value.int .i64 s) (l := l) (n := x.p) zO
        have hz3 : (l.flatMap encI)[0 + x.p.toNat * 1]? = some (.int .i64 z) := hz
        obtain ⟨bv, capv, hve2⟩ := g2.ptr zO
        injection hve2 with e1 e2 e3
        subst e1 e3
        refine J8 ?_; refine yq92 ?_; refine sv (PV.indexAddr rfl rfl zO) ?_; (refine T.storeVecP (lv := lv) Wanted.none rfl rfl rfl g2 (by rw [flat_len encI_len]; omega) zq1 ?_; intro lvh hvh); refine so ?_
        rw [show (l.flatMap encI).set (0 + ((i : Nat) : Int).toNat * 1) (.int .i64 z) = (l.set (0 + ((i : Nat) : Int).toNat * 1) z).flatMap encI from flat_set (f := fun a => Value.int .i64 a) l _ _] at hvh
        exact K ⟨i, lvh, _⟩ _ _ ⟨hvh, by rw [List.length_set]; exact g3, fun d hd => by rcases List.mem_or_eq_of_mem_set hd with h | h; exact g4 d h; rw [h]; exact g4 z hz0⟩ zq8 zq23
      · refine J8 ?_
        exact K ⟨i, lv, l⟩ _ _ ⟨g2, g3, g4⟩ zq8 (Sel.refl _)
    rintro ⟨_, lv3, l3⟩ ⟨j2, j3, j4⟩
    dsimp only at j2 j3 j4 ⊢
    refine J8 ?_; refine T.cut2G [(7, Value.int IntKind.i64 (↑i : Int)), (8, Value.pointer (some { block := b8, off := 0 })), (20, Value.int IntKind.i64 (↑i : Int)), (19, Value.int IntKind.i64 (↑c.nd.length : Int)), (18, Value.slice (some { block := bx, off := off }) c.nd.length cn'), (6, Value.slice ad c.nd.length cap), (3, Value.pointer (some { block := b3, off := 0 })), (0, Value.slice (some { block := bx, off := off }) c.nd.length cn')] (γ := Unit) (fun _ => True) (fun _ => [(7, .int .i64 (i : Int))]) (fun _ => [(b8, .cells #[.string x.lb, .int .i64 x.b, .int .i64 x.e, .int .i64 x.p] 115 (0, 0))] ++ (lv3 ++ [cb])) ?_ fun K => ?_
    rotate_left
    · refine T.loopK [(7, Value.int IntKind.i64 (↑i : Int)), (8, Value.pointer (some { block := b8, off := 0 })), (20, Value.int IntKind.i64 (↑i : Int)), (19, Value.int IntKind.i64 (↑c.nd.length : Int)), (18, Value.slice (some { block := bx, off := off }) c.nd.length cn'), (6, Value.slice ad c.nd.length cap), (3, Value.pointer (some { block := b3, off := 0 })), (0, Value.slice (some { block := bx, off := off }) c.nd.length cn')] zq8 (γ := Int) (fun k => -1 ≤ k ∧ k < i) (fun k => [(11, .int .i64 k)]) (fun _ => _) (fun _ => H) (fun k => (k + 1).toNat) ((i : Int) - 1) ⟨by omega, by omega⟩ zq8 (Sel.refl _) rfl ?_
      rintro k ⟨k1, k2⟩
      by_cases hk : 0 ≤ k
      · obtain ⟨_, _, y, e, hy, hsub2⟩ := RowL.get encNd_len hcn (i := k.toNat) zO
        injection e with e
        injection e with e1 e2
        subst e1 e2
        unfold encNd at hsub2
        by_cases hkp : y.p = x.p
        · refine J11 ?_; refine yq70 ?_; refine I4 ?_; refine yq23 ?_; refine I4 ?_; refine J3 ?_; refine yq70 ?_; refine I6 ?_; refine yq23 ?_; refine I2 ?_
          refine T.condD rfl (fun hc3 => ?_) (fun hc3 => ?_)
          · refine J6 ?_
            exact T.retF (Lv.fin (RV.tmp2 rfl rfl rfl) ⟨_, _, rfl⟩)
          · refine J2 ?_
            exact K () _ _ trivial zq8 (Sel.refl _)
        · refine J11 ?_; refine yq70 ?_; refine I4 ?_; refine yq23 ?_; refine I4 ?_; refine J8 ?_
          exact T.nextP (k - 1) ⟨by omega, by omega⟩ zO zq8 zq23 rfl
      · refine J8 ?_
        exact K () _ _ trivial zq8 (Sel.refl _)
    rintro _ _
    obtain ⟨z, hz0, _, hz⟩ := flat_at (f := fun s : Int => Value.int .i64 s) (l := l3) (n := (i : Int)) zO
    have hz3 : (l3.flatMap encI)[0 + ((i : Nat) : Int).toNat * 1]? = some (.int .i64 z) := hz
    obtain ⟨bv, capv, hve2⟩ := j2.ptr zO
    injection hve2 with e1 e2 e3
    subst e1 e3
    have hzb := j4 z hz0
    refine J5 ?_; refine yq92 ?_; refine J2 ?_; (refine T.storeVecP (lv := lv3) Wanted.none rfl rfl rfl j2 (by rw [flat_len encI_len]; omega) zq1 ?_; intro lvh hvh); refine J6 ?_
    rw [show (l3.flatMap encI).set (0 + ((i : Nat) : Int).toNat * 1) (.int .i64 (z + 1)) = (l3.set (0 + ((i : Nat) : Int).toNat * 1) (z + 1)).flatMap encI from flat_set (f := fun a => Value.int .i64 a) l3 _ _] at hvh
    obtain ⟨l4, hl4⟩ : ∃ q, q = l3.set (0 + ((i : Nat) : Int).toNat * 1) (z + 1) := ⟨_, rfl⟩
    have hl5 : l4.length = c.nd.length := by rw [hl4, List.length_set]; exact j3
    have hz4 : (l4.flatMap encI)[0 + ((i : Nat) : Int).toNat * 1]? = some (.int .i64 (z + 1)) := by
      obtain ⟨z5, hz50, hz51, hz52⟩ := flat_at (f := fun s : Int => Value.int .i64 s) (l := l4) (n := (i : Int)) zO
      have : z5 = z + 1 := by
        rw [hl4, List.getElem?_set] at hz51
        rw [if_pos zO, if_pos zO] at hz51
        injection hz51 with h; exact h.symm
      rw [← this]; exact hz52
    rw [← hl4] at hvh
    refine yq92 ?_; refine J2 ?_
    refine T.condD rfl (fun hc3 => ?_) (fun hc3 => ?_)
    · refine J6 ?_
      exact T.retF (Lv.fin (RV.tmp2 rfl rfl rfl) ⟨_, _, rfl⟩)
    · refine J6 ?_
      refine T.nextP ⟨i + 1, lvh, l4⟩ ⟨by dsimp only; omega, hvh, hl5, fun d hd => ?_, fun k y hk hy => ?_⟩ zE zq8 (hcb ▸ zq23) rfl
      rotate_left
      · by_cases hkk : k < i
        · exact g5 k y hkk hy
        · obtain rfl : k = i := by dsimp only at hk; omega
          rw [hix] at hy; cases hy
          exact ⟨x2, x3⟩
      dsimp only at hd
      rw [hl4] at hd
      rcases List.mem_or_eq_of_mem_set hd with h | h
      · exact j4 d h
      · rw [h]; omega
  · refine J12 ?_
    exact T.retF (Lv.fin (RV.tmp2 rfl rfl rfl) ⟨_, _, rfl⟩)

end Go.Proofs.YtecogbhbkccblaaGreatDoor
namespace Go.Proofs.YtecogbhbkccblaaGreatDoor
open Go.RowKit


/-- what a valid corpus is known to be -/
structure cpGood (c : Cp) : Prop where
  d : distN c.att c.att.length
  t : ∀ t ∈ c.tk, t.ss.length = c.att.length
  v : ∀ t ∈ c.tk, ∀ z ∈ t.ss, VvS z
  x : txChain 0 c.tx c.tk.length
  r : ∀ r ∈ c.rg, inTx c r.b r.e
  e : ∀ x ∈ c.att, x.1 ≠ ⟨#[]⟩
theorem validateA_fn (c : Cp) (H : Hp) (hc : CpA H c) : Fn Tryz.prog 53 #[cpV c] H (fun u _ => ∃ n m k : Int, u = .tuple #[.int .i64 n, .int .i64 m, .int .i64 k] ∧ (k = 0 → cpGood c)) := by
  have h1 := attributesA_fn c.att c.va H hc.a
  have h2 := tokensA_fn c H hc
  have h3 := textsA_fn c H hc
  have h4 := regionsA_fn c H hc
  have h5 := nodes6A_fn c H hc
  have h6 := heads6A_fn c H hc
  unfold cpV at h2 h3 h4 h5 h6 ⊢
  refine Fn.of_T (vs := [.agg #[c.va, c.vt, c.vx, c.vr, c.vn, c.vh, c.vs]]) Tryz.func53 rfl rfl fun w => ?_; refine zs3 ?_; (refine T.box Wanted.none rfl rfl zq15 ?_; intro b1); refine J9 ?_; refine T.callX Wanted.none rfl rfl h1 ?_
  rintro _ ⟨n, m, rfl, hm1⟩
  refine J11 ?_
  refine T.condD rfl (fun hc0 => ?_) (fun hc0 => ?_)
  · refine J8 ?_
    exact T.retF (Lv.fin (RV.tmp3 rfl rfl rfl rfl) ⟨_, _, _, rfl, fun h => absurd h zO⟩)
  have hz1 := hm1 zO
  refine J5 ?_; refine T.callX Wanted.none rfl rfl h2 ?_
  rintro _ ⟨n, m, rfl, hm2⟩
  refine J11 ?_
  refine T.condD rfl (fun hc0 => ?_) (fun hc0 => ?_)
  · refine J8 ?_
    exact T.retF (Lv.fin (RV.tmp3 rfl rfl rfl rfl) ⟨_, _, _, rfl, fun h => absurd h zO⟩)
  have hz2 := hm2 zO
  refine J5 ?_; refine T.callX Wanted.none rfl rfl h3 ?_
  rintro _ ⟨n, m, rfl, hm3⟩
  refine J11 ?_
  refine T.condD rfl (fun hc0 => ?_) (fun hc0 => ?_)
  · refine J8 ?_
    exact T.retF (Lv.fin (RV.tmp3 rfl rfl rfl rfl) ⟨_, _, _, rfl, fun h => absurd h zO⟩)
  have hz3 := hm3 zO
  refine J5 ?_; refine T.callX Wanted.none rfl rfl h4 ?_
  rintro _ ⟨n, m, rfl, hm4⟩
  refine J11 ?_
  refine T.condD rfl (fun hc0 => ?_) (fun hc0 => ?_)
  · refine J8 ?_
    exact T.retF (Lv.fin (RV.tmp3 rfl rfl rfl rfl) ⟨_, _, _, rfl, fun h => absurd h zO⟩)
  have hz4 := hm4 zO
  refine J7 ?_; refine T.callX Wanted.none rfl rfl h5 ?_
  rintro _ ⟨n, m, rfl⟩
  refine J11 ?_
  refine T.condD rfl (fun hc0 => ?_) (fun hc0 => ?_)
  · refine J8 ?_
    exact T.retF (Lv.fin (RV.tmp3 rfl rfl rfl rfl) ⟨_, _, _, rfl, fun h => absurd h zO⟩)
  refine J5 ?_; refine T.callX Wanted.none rfl rfl h6 ?_
  rintro _ ⟨n, m, rfl⟩
  refine J11 ?_
  refine T.condD rfl (fun hc0 => ?_) (fun hc0 => ?_)
  · refine J8 ?_
    exact T.retF (Lv.fin (RV.tmp3 rfl rfl rfl rfl) ⟨_, _, _, rfl, fun h => absurd h zO⟩)
  refine J7 ?_
  exact T.retF (Lv.fin (RV.tmp3 rfl rfl rfl rfl) ⟨_, _, _, rfl, fun _ => ⟨hz1.1, fun t ht => (hz2 t ht).1, fun t ht => (hz2 t ht).2, hz3, hz4, hz1.2⟩⟩)
theorem validA_fn (c : Cp) (H : Hp) (hc : CpA H c) : Fn Tryz.prog 24 #[cpV c] H (fun u _ => ∃ b : Bool, u = .bool b ∧ (b = true → cpGood c)) := by
  have h1 := validateA_fn c H hc
  unfold cpV at h1 ⊢
  refine Fn.of_T (vs := [.agg #[c.va, c.vt, c.vx, c.vr, c.vn, c.vh, c.vs]]) Tryz.func24 rfl rfl fun w => ?_; refine zs3 ?_; (refine T.box Wanted.none rfl rfl zq15 ?_; intro b1); refine J5 ?_; refine T.callX Wanted.none rfl rfl h1 ?_
  rintro _ ⟨n, m, k, rfl, hk⟩
  refine J14 ?_
  exact T.retF (Lv.fin (RV.tmp rfl rfl) ⟨_, rfl, fun h => hk (by have := of_decide_eq_true h; omega)⟩)

end Go.Proofs.YtecogbhbkccblaaGreatDoor
