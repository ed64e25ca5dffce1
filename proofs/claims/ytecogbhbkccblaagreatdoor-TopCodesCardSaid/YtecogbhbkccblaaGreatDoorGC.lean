/- features: sets of features.
   a condition on a feature: checked.
   any corpus in memory: texts, tokens. -/
import Derived.Lib.Bytealg
import Derived.Test.YtecogbhbkccblaaGreatDoorGB
set_option maxRecDepth 4000
set_option maxHeartbeats 40000000
set_option linter.all false
namespace Go.Proofs.YtecogbhbkccblaaGreatDoor
open Go.RowKit


end Go.Proofs.YtecogbhbkccblaaGreatDoor
namespace Go.Proofs.YtecogbhbkccblaaGreatDoor
open Go.RowKit


theorem PV.callEx {P : Program} {e : Env} {l : List (Nat × Obj)} {H : Hp} {f : FuncId} {xs : List Operand} {vs : List Value} {v : Value} {ts : Array TypeId} {dst : Option Tmp} {ty : TypeId} {pos : String} {after : Array Edge} {gd : Option (Nat × Bool)} (hv : evL e xs = some vs) (h : ∀ w, (callFunc f vs.toArray).run P w = .ok (.value v) w) :
    PV P e l H ⟨dst, .call ⟨.value (.func f), xs.toArray, ts⟩, ty, pos, after, gd⟩ v := PV.mk fun X D a w ha hw => by
  have := evL_map ha xs vs hv
  have hE' := h w
  simp [execOp, resolve, Act.eval, Deferred.ofValue, invoke, List.map_toArray, this, hE']
theorem idxExt (s : ByteArray) (c : UInt8) (w : World) : (callFunc 229 [Value.string s, .int .u8 (c.toNat : Int)].toArray).run Tryz.prog w = .ok (.value (.int .i64 (Lib.indexByte s.data.toList c))) w := by
  rw [run_callFunc_extern Tryz.func229 zK zK zK (e := Extern.BytealgIndexByte.indexByte) zK, Lib.run_indexByteString]
  simp
theorem indexByte_fn (s : ByteArray) (c : UInt8) (H : Hp) : Fn Tryz.prog 213 #[.string s, .int .u8 (c.toNat : Int)] H (fun u _ => u = .int .i64 (Lib.indexByte s.data.toList c)) := by
  refine Fn.of_T (vs := [.string s, .int .u8 (c.toNat : Int)]) Tryz.func213 rfl rfl fun w => ?_; refine J8 ?_; refine sv (PV.callEx rfl (idxExt s c)) ?_; refine J2 ?_
  exact T.retF (Lv.fin (RV.tmp rfl rfl) rfl)
theorem liteIndex_fn (s t : ByteArray) (c : UInt8) (ht : t = ⟨#[c]⟩) (H : Hp) : Fn Tryz.prog 184 #[.string s, .string t] H (fun u _ => u = .int .i64 (Lib.indexByte s.data.toList c)) := by
  have hsz : t.size = 1 := by rw [ht]; rfl
  have hc : t.data.toList[(0 : Int).toNat]? = some c := by rw [ht]; rfl
  have hd0 : decide ((t.size : Int) = 0) = false := decide_eq_false zO
  have hi := indexByte_fn s c H
  refine Fn.of_T (vs := [.string s, .string t]) Tryz.func184 rfl rfl fun w => ?_
  by_cases hts : t = s
  · have hd1 : decide (t = s) = true := decide_eq_true hts
    have hix : Lib.indexByte s.data.toList c = 0 := by rw [← hts, ht]; show Lib.indexByte [c] c = 0; unfold Lib.indexByte; simp
    refine J17 ?_; refine yq69 ?_; refine T.pv (PV.seql rfl rfl) (Wanted.guard rfl rfl zA) rfl rfl ?_; refine yq90 ?_; refine J2 ?_; refine yq9 ?_; refine J4 ?_
    exact T.retF (Lv.fin (RV.tmp rfl rfl) (by rw [hix]))
  · have hd1 : decide (t = s) = false := decide_eq_false hts
    refine J17 ?_; refine yq69 ?_; refine T.pv (PV.seql rfl rfl) (Wanted.guard rfl rfl zA) rfl rfl ?_; refine yq90 ?_; refine J2 ?_; refine yq6 ?_; refine J11 ?_; refine yq106 ?_; refine T.callV Wanted.none rfl rfl (hi) ?_; refine J2 ?_
    exact T.retF (Lv.fin (RV.tmp rfl rfl) rfl)
end Go.Proofs.YtecogbhbkccblaaGreatDoor
namespace Go.Proofs.YtecogbhbkccblaaGreatDoor
open Go.RowKit


/-- an interval lies in one text -/
def inTx (c : Cp) (b e : Int) : Prop := ∃ t ∈ c.tx, t.b ≤ b ∧ b < e ∧ e ≤ t.e
theorem withinA_fn (c : Cp) (b e : Int) (H : Hp) (hc : CpA H c) : Fn Tryz.prog 154 #[cpV c, .int .i64 b, .int .i64 e] H (fun u _ => ∃ q : Bool, u = .bool q ∧ (q = true → inTx c b e)) := by
  obtain ⟨aa, ca, at1, ct, ax, cx, ar, cr, an, cn, ah, ch, as1, cs, hcv, ha, ht, hx, hr, hn, hh, hs⟩ := hc.open; rw [hcv]; have hla := hc.la; have hlt := hc.lt; have hlx := hc.lx; have hlr := hc.lr; have hln := hc.ln; have hlh := hc.lh; have hls := hc.ls
  refine Fn.of_T (vs := [.agg #[.slice aa c.att.length ca, .slice at1 c.tk.length ct, .slice ax c.tx.length cx, .slice ar c.rg.length cr, .slice an c.nd.length cn, .slice ah c.hd.length ch, .slice as1 c.rl.length cs], .int .i64 b, .int .i64 e]) Tryz.func154 rfl rfl fun w => ?_; refine zs3 ?_; (refine T.box Wanted.none rfl rfl zq15 ?_; intro b3); refine J11 ?_; refine T.loopR [(11, Value.int IntKind.i64 (↑c.tx.length : Int)), (10, Value.slice ax c.tx.length cx), (1, Value.int IntKind.i64 b), (2, Value.int IntKind.i64 e)] zq8 12 c.tx.length rfl ?_
  intro i hi0
  by_cases hi : i < c.tx.length
  · obtain ⟨bx, off, x, rfl, hix, hsub⟩ := RowL.get encRg_len hx.1 hi
    unfold encRg at hsub
    obtain ⟨am, cm, hmv⟩ := (hx.2 x (List.mem_of_getElem? hix)).1.len
    rw [hmv] at hsub
    by_cases hq : x.b ≤ b ∧ b < e ∧ e ≤ x.e
    · refine J12 ?_; refine yq20 ?_; refine sy fun b8 => ?_; refine yq2 ?_; refine J8 ?_; refine T.setT (d := 20) rfl zO ?_; refine J5 ?_; refine T.setT (d := 25) rfl zO ?_; refine J11 ?_
      exact T.retF (Lv.fin (RV.tmp rfl rfl) ⟨_, rfl, fun _ => ⟨x, List.mem_of_getElem? hix, hq⟩⟩)
    · refine J12 ?_; refine yq20 ?_; refine sy fun b8 => ?_; refine yq2 ?_; refine J8 ?_
      refine T.splitD (d := 20) rfl (fun h0 => ?_) (fun h0 => ?_)
      · refine J5 ?_
        refine T.splitD (d := 25) rfl (fun h1 => ?_) (fun h1 => ?_)
        · refine J13 ?_
          (first | exact absurd ⟨by omega, by omega, by omega⟩ hq | exact T.nextR zO rfl zq8 zq23)
        · refine J13 ?_
          (first | exact absurd ⟨by omega, by omega, by omega⟩ hq | exact T.nextR zO rfl zq8 zq23)
      · refine J18 ?_
        (first | exact absurd ⟨by omega, by omega, by omega⟩ hq | exact T.nextR zO rfl zq8 zq23)
  · refine J11 ?_
    exact T.retF (Lv.fin (RV.tmp rfl rfl) ⟨_, rfl, fun h => by cases h⟩)
theorem textAtA_fn (c : Cp) (p : Int) (H : Hp) (hc : CpA H c) : Fn Tryz.prog 157 #[cpV c, .int .i64 p] H (fun u _ => u = .int .i64 (textOf c.tx p)) := by
  obtain ⟨aa, ca, at1, ct, ax, cx, ar, cr, an, cn, ah, ch, as1, cs, hcv, ha, ht, hx, hr, hn, hh, hs⟩ := hc.open; rw [hcv]; have hla := hc.la; have hlt := hc.lt; have hlx := hc.lx; have hlr := hc.lr; have hln := hc.ln; have hlh := hc.lh; have hls := hc.ls
  refine Fn.of_T (vs := [.agg #[.slice aa c.att.length ca, .slice at1 c.tk.length ct, .slice ax c.tx.length cx, .slice ar c.rg.length cr, .slice an c.nd.length cn, .slice ah c.hd.length ch, .slice as1 c.rl.length cs], .int .i64 p]) Tryz.func157 rfl rfl fun w => ?_; refine zs3 ?_; (refine T.box Wanted.none rfl rfl zq15 ?_; intro b2); refine J11 ?_; refine T.loopC [(9, Value.int IntKind.i64 (↑c.tx.length : Int)), (8, Value.slice ax c.tx.length cx), (1, Value.int IntKind.i64 p)] zq8 10 c.tx.length (fun i => textRec p i (c.tx.drop i) = textOf c.tx p) rfl rfl ?_
  rintro i ⟨hi0, hi1⟩
  by_cases hi : i < c.tx.length
  · obtain ⟨bx, off, x, rfl, hix, hsub⟩ := RowL.get encRg_len hx.1 hi
    unfold encRg at hsub
    obtain ⟨am, cm, hmv⟩ := (hx.2 x (List.mem_of_getElem? hix)).1.len
    rw [hmv] at hsub
    rw [textRec_drop hix] at hi1
    by_cases h1 : x.b ≤ p
    · by_cases h2 : p < x.e
      · rw [if_pos ⟨h1, h2⟩] at hi1
        refine J13 ?_; refine yq20 ?_; refine sy fun b6 => ?_; refine sa ?_; refine yq2 ?_; refine J8 ?_; refine T.setT (d := 19) rfl zO ?_; refine J12 ?_
        exact T.retF (Lv.fin (RV.tmp rfl rfl) (by rw [← hi1]))
      · rw [if_neg zO] at hi1
        refine J13 ?_; refine yq20 ?_; refine sy fun b6 => ?_; refine sa ?_; refine yq2 ?_; refine J8 ?_; refine T.setT (d := 19) rfl zO ?_; refine J13 ?_
        exact T.nextC hi hi1 rfl zq8 zq23
    · rw [if_neg zO] at hi1
      refine J13 ?_; refine yq20 ?_; refine sy fun b6 => ?_; refine sa ?_; refine yq2 ?_; refine J8 ?_; refine T.setF (d := 19) rfl zO ?_; refine J13 ?_
      exact T.nextC hi hi1 rfl zq8 zq23
  · refine J11 ?_
    rw [List.drop_of_length_le zO, textRec] at hi1
    exact T.retF (Lv.fin (RV.tmp rfl rfl) (by rw [← hi1]))
theorem tokensA_fn (c : Cp) (H : Hp) (hc : CpA H c) : Fn Tryz.prog 94 #[cpV c] H (fun u _ => ∃ n m : Int, u = .tuple #[.int .i64 n, .int .i64 m] ∧ (m = 0 → ∀ t ∈ c.tk, t.ss.length = c.att.length ∧ ∀ z ∈ t.ss, VvS z)) := by
  obtain ⟨aa, ca, at1, ct, ax, cx, ar, cr, an, cn, ah, ch, as1, cs, hcv, ha, ht, hx, hr, hn, hh, hs⟩ := hc.open; rw [hcv]; have hla := hc.la; have hlt := hc.lt; have hlx := hc.lx; have hlr := hc.lr; have hln := hc.ln; have hlh := hc.lh; have hls := hc.ls
  refine Fn.of_T (vs := [.agg #[.slice aa c.att.length ca, .slice at1 c.tk.length ct, .slice ax c.tx.length cx, .slice ar c.rg.length cr, .slice an c.nd.length cn, .slice ah c.hd.length ch, .slice as1 c.rl.length cs]]) Tryz.func94 rfl rfl fun w => ?_; refine zs3 ?_; (refine T.box Wanted.none rfl rfl zq15 ?_; intro b1); refine J22 ?_; refine T.loopC [(15, Value.int IntKind.i64 (↑c.tk.length : Int)), (14, Value.slice at1 c.tk.length ct), (1, Value.pointer (some { block := b1, off := 0 }))] zq8 16 c.tk.length (fun i => ∀ (j : Nat) (t : Tk), j < i → c.tk[j]? = some t → t.ss.length = c.att.length ∧ ∀ z ∈ t.ss, VvS z) (fun _ _ h => absurd h zO) rfl ?_
  rintro i ⟨hi0, hd⟩
  by_cases hi : i < c.tk.length
  · obtain ⟨bx, off, x, rfl, hix, hsub⟩ := RowL.get encTk_len ht hi
    unfold encTk at hsub
    have hxo := hc.tO x (List.mem_of_getElem? hix)
    obtain ⟨v, ss⟩ := x
    obtain ⟨as2, cs2, hve⟩ := hxo.1.len
    dsimp only at hve
    subst hve
    dsimp only at hsub
    by_cases h1 : ss.length ≠ c.att.length
    · refine J13 ?_; refine yq10 ?_; refine J20 ?_
      exact T.retF (Lv.fin (RV.tmp2 rfl rfl rfl) ⟨_, _, rfl, fun h => by cases h⟩)
    refine J13 ?_; refine yq10 ?_; refine J22 ?_; refine T.loopC [(29, Value.int IntKind.i64 (↑ss.length : Int)), (28, Value.slice as2 ss.length cs2), (4, Value.int IntKind.i64 (↑i : Int)), (16, Value.int IntKind.i64 (↑i : Int)), (15, Value.int IntKind.i64 (↑c.tk.length : Int)), (14, Value.slice (some { block := bx, off := off }) c.tk.length ct), (1, Value.pointer (some { block := b1, off := 0 }))] zq8 30 ss.length (fun j => ∀ (k : Nat) (z : ByteArray), k < j → ss[k]? = some z → VvS z) (fun _ _ h => absurd h zO) rfl ?_
    rintro j ⟨hj0, hjs⟩
    by_cases hj : j < ss.length
    · obtain ⟨by', offy, s, rfl, his, hsubs⟩ := RowL.get encT_len hxo.1 hj
      obtain ⟨ba, offa, ⟨nm, st⟩, rfl, hia, hsuba⟩ := RowL.get encAt_len ha (i := j) zO
      unfold encT at hsubs
      unfold encAt at hsuba
      have hcast : ((j : Nat) : Int).toNat = j := Int.toNat_natCast j
      refine J13 ?_; refine yq10 ?_; refine J9 ?_; refine yq20 ?_; refine sm ?_; refine T.callX Wanted.none rfl rfl (valueA_fn nm st s H) ?_
      rintro _ ⟨n, rfl, hvn⟩
      refine J7 ?_
      refine T.condD rfl (fun hc0 => ?_) (fun hc0 => ?_)
      · refine J7 ?_
        exact T.retF (Lv.fin (RV.tmp2 rfl rfl rfl) ⟨_, _, rfl, fun h => absurd h zO⟩)
      · refine J6 ?_
        refine T.nextC hj (fun k z hk1 hkz => ?_) rfl zq8 zq23
        by_cases hkk : k < j
        · exact hjs k z hkk hkz
        · obtain rfl : k = j := by omega
          rw [his] at hkz; cases hkz
          exact hvn zO
    · refine J12 ?_
      refine T.nextC hi (fun k t hk1 hkt => ?_) rfl zq8 zq23
      by_cases hkk : k < i
      · exact hd k t hkk hkt
      · obtain rfl : k = i := by omega
        rw [hix] at hkt; cases hkt
        refine ⟨by show ss.length = _; omega, fun z hz => ?_⟩
        obtain ⟨k2, hk2⟩ := List.getElem?_of_mem hz
        exact hjs k2 z (by have := (List.getElem?_eq_some_iff.1 hk2).1; dsimp only at this; omega) hk2
  · refine J12 ?_
    exact T.retF (Lv.fin (RV.tmp2 rfl rfl rfl) ⟨_, _, rfl, fun _ t ht2 => by
      obtain ⟨k, hk⟩ := List.getElem?_of_mem ht2
      exact hd k t (by have := (List.getElem?_eq_some_iff.1 hk).1; omega) hk⟩)
/-- texts follow one another -/
def txChain : Int → List Rg → Int → Prop
  | z, [], n => z = n
  | z, t :: l, n => t.b = z ∧ z < t.e ∧ txChain t.e l n
theorem textsA_fn (c : Cp) (H : Hp) (hc : CpA H c) : Fn Tryz.prog 95 #[cpV c] H (fun u _ => ∃ n m : Int, u = .tuple #[.int .i64 n, .int .i64 m] ∧ (m = 0 → txChain 0 c.tx c.tk.length)) := by
  obtain ⟨aa, ca, at1, ct, ax, cx, ar, cr, an, cn, ah, ch, as1, cs, hcv, ha, ht, hx, hr, hn, hh, hs⟩ := hc.open; rw [hcv]; have hla := hc.la; have hlt := hc.lt; have hlx := hc.lx; have hlr := hc.lr; have hln := hc.ln; have hlh := hc.lh; have hls := hc.ls
  have hcapx := hx.1.cap
  refine Fn.of_T (vs := [.agg #[.slice aa c.att.length ca, .slice at1 c.tk.length ct, .slice ax c.tx.length cx, .slice ar c.rg.length cr, .slice an c.nd.length cn, .slice ah c.hd.length ch, .slice as1 c.rl.length cs]]) Tryz.func95 rfl rfl fun w => ?_
  by_cases h1 : 64 < c.tx.length
  · refine zs3 ?_; (refine T.box Wanted.none rfl rfl zq15 ?_; intro b1); refine J24 ?_
    exact T.retF (Lv.fin (RV.tmp2 rfl rfl rfl) ⟨_, _, rfl, fun h => by cases h⟩)
  refine zs3 ?_; (refine T.box Wanted.none rfl rfl zq15 ?_; intro b1); refine J31 ?_
  refine T.cond rfl (fun hc0 => ?_) (fun hc0 => ?_)
  · refine J5 ?_
    exact T.retF (Lv.fin (RV.tmp2 rfl rfl rfl) ⟨_, _, rfl, fun h => by cases h⟩)
  have hc1 : c.tx.length = 0 → c.tk.length = 0 := fun h => by
    simp [h] at hc0
    exact List.length_eq_zero_iff.2 hc0
  clear hc0
  refine J14 ?_; refine T.loopK [(27, Value.int IntKind.i64 (↑c.tx.length : Int)), (26, Value.slice ax c.tx.length cx), (4, Value.int IntKind.i64 (↑c.tk.length : Int)), (1, Value.pointer (some { block := b1, off := 0 }))] zq8 (γ := Nat × Int) (fun g => g.1 ≤ c.tx.length ∧ (txChain g.2 (c.tx.drop g.1) c.tk.length → txChain 0 c.tx c.tk.length) ∧ (g.1 = c.tx.length → g.2 = c.tk.length)) (fun g => [(28, .int .i64 (g.1 : Int)), (5, .int .i64 g.2)]) (fun _ => _) (fun _ => H) (fun g => c.tx.length - g.1) (0, 0) ⟨Nat.zero_le _, fun h => h, fun h => by dsimp only at h ⊢; have := hc1 h.symm; omega⟩ zq8 (Sel.refl _) rfl ?_
  rintro ⟨i, z⟩ ⟨hi0, hch, hend⟩
  dsimp only at hi0 hch hend ⊢
  by_cases hi : i < c.tx.length
  · obtain ⟨bx, off, x, rfl, hix, hsub⟩ := RowL.get encRg_len hx.1 hi
    unfold encRg at hsub
    have hxo := hx.2 x (List.mem_of_getElem? hix)
    obtain ⟨am, cm, hmv⟩ := hxo.1.len
    rw [hmv] at hsub
    have hp := pairsA_fn x.ks x.kv H hxo
    rw [hmv] at hp
    refine J13 ?_; refine yq20 ?_; refine sy fun b7 => ?_; refine sa ?_; refine yq2 ?_; refine J6 ?_; refine T.callX Wanted.none rfl rfl ((name4_fn _ _).mono (R' := fun u _ => IsB u) fun u _ h => ⟨_, h⟩) ?_
    rintro _ ⟨q, rfl⟩
    refine J2 ?_
    refine T.cond rfl (fun hc0 => ?_) (fun hc0 => ?_)
    · refine J6 ?_
      exact T.retF (Lv.fin (RV.tmp2 rfl rfl rfl) ⟨_, _, rfl, fun h => by cases h⟩)
    refine J7 ?_; refine sv (PV.sliceH rfl rfl zO) ?_; refine J4 ?_; refine T.loopR [(42, Value.int IntKind.i64 (↑(↑i : Int).toNat : Int)), (41, Value.slice (some { block := bx, off := off }) (↑i : Int).toNat cx), (6, Value.int IntKind.i64 (↑i : Int)), (7, Value.pointer (some { block := b7, off := 0 })), (28, Value.int IntKind.i64 (↑i : Int)), (5, Value.int IntKind.i64 z), (27, Value.int IntKind.i64 (↑c.tx.length : Int)), (26, Value.slice (some { block := bx, off := off }) c.tx.length cx), (4, Value.int IntKind.i64 (↑c.tk.length : Int)), (1, Value.pointer (some { block := b1, off := 0 }))] zq8 43 i rfl ?_
    intro j hj0
    by_cases hj : j < i
    · obtain ⟨_, _, y, e, hy, hsub2⟩ := RowL.get encRg_len hx.1 (i := j) zO
      injection e with e
      injection e with e1 e2
      subst e1 e2
      unfold encRg at hsub2
      obtain ⟨am2, cm2, hmv2⟩ := (hx.2 y (List.mem_of_getElem? hy)).1.len
      rw [hmv2] at hsub2
      refine J12 ?_; refine yq20 ?_; refine sy fun b9 => ?_; refine yq2 ?_; refine J9 ?_
      refine T.condD rfl (fun h0 => ?_) (fun h0 => ?_)
      · refine J6 ?_
        (first | exact T.retF (Lv.fin (RV.tmp2 rfl rfl rfl) ⟨_, _, rfl, fun h => by cases h⟩) | exact T.nextR zO rfl zq8 zq23)
      · refine J6 ?_
        (first | exact T.retF (Lv.fin (RV.tmp2 rfl rfl rfl) ⟨_, _, rfl, fun h => by cases h⟩) | exact T.nextR zO rfl zq8 zq23)
    · by_cases g1 : x.b ≠ z
      · refine J15 ?_; refine T.setT (d := 58) rfl zO ?_; refine J26 ?_
        refine J8 ?_
        exact T.retF (Lv.fin (RV.tmp2 rfl rfl rfl) ⟨_, _, rfl, fun h => by cases h⟩)
      by_cases g2 : x.e ≤ x.b
      · refine J15 ?_; refine T.setF (d := 58) rfl zO ?_; refine J7 ?_; refine T.setT (d := 65) rfl zO ?_; refine J18 ?_
        refine J9 ?_
        exact T.retF (Lv.fin (RV.tmp2 rfl rfl rfl) ⟨_, _, rfl, fun h => by cases h⟩)
      by_cases g3 : x.e > c.tk.length
      · refine J15 ?_; refine T.setF (d := 58) rfl zO ?_; refine J7 ?_; refine T.setF (d := 65) rfl zO ?_; refine J6 ?_; refine T.setT (d := 71) rfl zO ?_; refine J11 ?_
        refine J10 ?_
        exact T.retF (Lv.fin (RV.tmp2 rfl rfl rfl) ⟨_, _, rfl, fun h => by cases h⟩)
      by_cases g4 : i = c.tx.length - 1 ∧ x.e ≠ c.tk.length
      · obtain ⟨g4, g5⟩ := g4
        refine J15 ?_; refine T.setF (d := 58) rfl zO ?_; refine J7 ?_; refine T.setF (d := 65) rfl zO ?_; refine J6 ?_; refine T.setF (d := 71) rfl zO ?_; refine J7 ?_; refine T.setT (d := 78) rfl zO ?_; refine J3 ?_
        refine J11 ?_
        exact T.retF (Lv.fin (RV.tmp2 rfl rfl rfl) ⟨_, _, rfl, fun h => by cases h⟩)
      have g6 : i + 1 = c.tx.length → x.e = c.tk.length := fun h => by
        by_cases h2 : x.e = c.tk.length
        · exact h2
        · exact absurd ⟨by omega, h2⟩ g4
      have g7 : txChain z (c.tx.drop i) c.tk.length ↔ (x.b = z ∧ z < x.e ∧ txChain x.e (c.tx.drop (i + 1)) c.tk.length) := by
        rw [List.drop_eq_getElem_cons hi, show c.tx[i] = x from (List.getElem?_eq_some_iff.1 hix).2]; rfl
      by_cases g8 : i = c.tx.length - 1
      · have g9 := g6 zO
        refine J15 ?_; refine T.setF (d := 58) rfl zO ?_; refine J7 ?_; refine T.setF (d := 65) rfl zO ?_; refine J6 ?_; refine T.setF (d := 71) rfl zO ?_; refine J7 ?_; refine T.setT (d := 78) rfl zO ?_; refine J3 ?_
        refine J11 ?_; refine T.callX Wanted.none rfl rfl hp ?_
        rintro _ ⟨n, rfl⟩
        refine J7 ?_
        refine T.condD rfl (fun hc0 => ?_) (fun hc0 => ?_)
        · refine J7 ?_
          exact T.retF (Lv.fin (RV.tmp2 rfl rfl rfl) ⟨_, _, rfl, fun h => absurd h zO⟩)
        refine J11 ?_
        exact T.nextP (i + 1, x.e) ⟨by dsimp only; omega, fun h => hch (g7.2 ⟨by omega, by omega, h⟩), g6⟩ zE zq8 zq23 rfl
      · refine J15 ?_; refine T.setF (d := 58) rfl zO ?_; refine J7 ?_; refine T.setF (d := 65) rfl zO ?_; refine J6 ?_; refine T.setF (d := 71) rfl zO ?_; refine J7 ?_; refine T.setF (d := 78) rfl zO ?_; refine J3 ?_
        refine J11 ?_; refine T.callX Wanted.none rfl rfl hp ?_
        rintro _ ⟨n, rfl⟩
        refine J7 ?_
        refine T.condD rfl (fun hc0 => ?_) (fun hc0 => ?_)
        · refine J7 ?_
          exact T.retF (Lv.fin (RV.tmp2 rfl rfl rfl) ⟨_, _, rfl, fun h => absurd h zO⟩)
        refine J11 ?_
        exact T.nextP (i + 1, x.e) ⟨by dsimp only; omega, fun h => hch (g7.2 ⟨by omega, by omega, h⟩), g6⟩ zE zq8 zq23 rfl
  · refine J12 ?_
    refine T.retF (Lv.fin (RV.tmp2 rfl rfl rfl) ⟨_, _, rfl, fun _ => hch ?_⟩)
    rw [List.drop_of_length_le zO]
    exact hend zO

end Go.Proofs.YtecogbhbkccblaaGreatDoor
