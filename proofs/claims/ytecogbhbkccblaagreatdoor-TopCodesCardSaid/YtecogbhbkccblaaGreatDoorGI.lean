/- the example: a text begins.
   the example: a region begins; a line in parts.
   the example: a token.
   the example: regions and texts end. -/
import Derived.Test.YtecogbhbkccblaaGreatDoorGH
set_option maxRecDepth 4000
set_option maxHeartbeats 40000000
set_option linter.all false
namespace Go.Proofs.YtecogbhbkccblaaGreatDoor
open Go.RowKit


abbrev nilS : Value := .slice none 0 0
/-- the reader -/
abbrev rdB (b : Nat) (va vt vx vr vop : Value) (tx : Bool) : Nat × Obj := (b, .cells #[va, vt, vx, vr, .slice none 0 0, .slice none 0 0, .slice none 0 0, vop, .bool tx] 158 (0, 0))
/-- all that the name is made of may go on -/
structure NmOk (s : ByteArray) : Prop where
  le : s.size ≤ 32
  fst : ∃ c, s.data.toList[0]? = some c ∧ nmFst (c.toNat : Int) = true
  nxt : ∀ j, j < s.size → ∃ c, s.data.toList[j]? = some c ∧ nmNxt (c.toNat : Int) = true
theorem validNm_fn (s : ByteArray) (H : Hp) (h : NmOk s) : Fn Tryz.prog 141 #[.string s] H (fun u _ => u = .bool true) := by
  obtain ⟨h1, ⟨c0, h2, h3⟩, h4⟩ := h
  have hl : s.data.toList.length = s.size := Array.length_toList
  have h0 := (List.getElem?_eq_some_iff.1 h2).1
  have h2' : s.data.toList[(0 : Int).toNat]? = some c0 := h2
  have hb0 := begins_fn (c0.toNat : Int) H
  rw [h3] at hb0
  refine Fn.of_T (vs := [.string s]) Tryz.func141 rfl rfl fun w => ?_; refine J11 ?_; refine T.setF (d := 7) rfl zO ?_; refine J5 ?_; refine T.setF (d := 12) rfl zO ?_; refine gm ?_; refine gv (PV.indexStr rfl rfl zO zA) ?_; refine T.callV (Wanted.guard rfl rfl rfl) rfl rfl (hb0) ?_; refine J13 ?_; refine T.loopR [(19, Value.int IntKind.i64 (↑s.size : Int)), (0, Value.string s)] zq8 20 s.size rfl ?_
  intro j hj0
  by_cases hj : j < s.size
  · obtain ⟨c, hc, hcn⟩ := h4 j hj
    have hc' : s.data.toList[((j : Nat) : Int).toNat]? = some c := by rw [Int.toNat_natCast]; exact hc
    have hg := goesOn_fn (c.toNat : Int) H
    rw [hcn] at hg
    refine J18 ?_; refine yq106 ?_; refine T.callV Wanted.none rfl rfl (hg) ?_; refine J9 ?_
    exact T.nextR zO rfl zq8 zq23
  · refine J11 ?_
    exact T.retF (Lv.fin (RV.tmp rfl rfl) rfl)
theorem findText_nil (va vt vr vn vh vs : Value) (s : ByteArray) (H : Hp) : Fn Tryz.prog 143 #[.agg #[va, vt, nilS, vr, vn, vh, vs], .string s] H (fun u _ => u = .int .i64 (-1)) := by
  refine Fn.of_T (vs := [.agg #[va, vt, nilS, vr, vn, vh, vs], .string s]) Tryz.func143 rfl rfl fun w => ?_; refine zs3 ?_; (refine T.box Wanted.none rfl rfl zq15 ?_; intro b2); refine J11 ?_; refine T.rounds 1 ?_; refine J11 ?_
  exact T.retF (Lv.fin (RV.tmp rfl rfl) rfl)
theorem nmT : NmOk ⟨#[116]⟩ := ⟨by decide, ⟨_, rfl, by decide⟩, fun j h => by
  obtain rfl : j = 0 := by have : j < 1 := h; omega
  exact ⟨_, rfl, by decide⟩⟩
theorem beginText_fn (b : Nat) (ava : Option Addr) (n cva : Nat) (kv : Value) (H : Hp) (hkv : SlR H 2 kv 1 [.string bId, .string bT]) :
    FnW Tryz.prog 137 #[.pointer (some ⟨b, 0, none⟩), tgV false bText kv] H [rdB b (.slice ava n cva) nilS nilS nilS nilS false]
      (fun u H' l' => u = .int .i64 0 ∧ H' = H ∧ ∃ ax cx lvx, Vec 112 4 (.slice ax 1 cx) lvx 1 [.string bT, .int .i64 0, .int .i64 (-1), nilS] ∧ l' = lvx ++ [rdB b (.slice ava n cva) nilS (.slice ax 1 cx) nilS nilS true]) := by
  obtain ⟨ad, cap, rfl⟩ := hkv.len
  obtain ⟨bk, off, rfl, hsub⟩ := RowL.at (l := [(bId, bT)]) encPr_len hkv (i := 0) rfl
  unfold encPr at hsub
  have hvn := validNm_fn bT H nmT
  have hft := findText_nil (.slice ava n cva) nilS nilS nilS nilS nilS bT H
  have hid : decide (bId = ⟨#[105, 100]⟩) = true := decide_eq_true rfl
  refine FnW.of_T (vs := [.pointer (some ⟨b, 0, none⟩), tgV false bText (.slice (some ⟨bk, off, none⟩) 1 cap)]) Tryz.func137 rfl rfl fun w => ?_; refine zs3 ?_; (refine T.box Wanted.none rfl rfl zq15 ?_; intro b3); refine J35 ?_; refine yq39 ?_; refine sy fun b5 => ?_; refine yq2 ?_; refine J4 ?_
  refine J10 ?_; refine T.rounds 2 ?_; refine J12 ?_; refine yq20 ?_; refine sy fun b8 => ?_; refine yq2 ?_; refine J12 ?_; refine yq1 ?_; refine J6 ?_
  refine so ?_; refine T.again ?_; refine J20 ?_; refine T.callV Wanted.none rfl rfl (hvn) ?_; refine J4 ?_
  (repeat refine sq ?_)
  refine T.regionOl zK ?_; refine yq49 ?_; refine yq35 ?_; refine TO.take 3 rfl zK zK zK (PV.loadAgg rfl zq0 zX zX) Wanted.none rfl rfl ?_; refine TO.take 4 rfl zK zK zK (PV.fieldAddr rfl) Wanted.none rfl rfl ?_; refine TO.take 5 rfl zK zK zK (PV.load1 rfl zq0 rfl) Wanted.none rfl rfl ?_; refine TO.step 6 rfl zK zq4 zq19 ?_; (refine T.callX Wanted.none rfl rfl hft ?_; rintro _ rfl); refine yq30 ?_; refine TO.take 7 rfl zK zK zK (PV.geq rfl rfl) Wanted.none rfl rfl ?_; refine TO.take 8 rfl zK zK zK (PV.assign rfl) Wanted.none rfl rfl ?_; refine yq37 ?_; refine J3 ?_
  (repeat refine sq ?_)
  refine T.regionS [(b5, .cells #[.string bT, .int .i64 0, .int .i64 (-1), nilS] 112 (0, 0)), rdB b (.slice ava n cva) nilS nilS nilS nilS false] 12 zK ?_; refine yq7 ?_; refine yq34 ?_; refine yq89 ?_; refine TS.take 6 rfl zK zK zK zK (PV.loadAll rfl zq0 zX) Wanted.none rfl rfl ?_
  refine yq91 ?_
  (refine T.buildSlice Wanted.none rfl rfl zq11 zX zX ?_; intro b73); refine yq4 ?_
  refine TS.ways [8] zK rfl zq20 ⟨⟨_, rfl, ?_⟩, trivial⟩
  (refine T.appendP (lv := []) Wanted.none rfl rfl rfl (Vec.nil 112 4) (Src.cells (m := 1) (ys := [.string bT, .int .i64 0, .int .i64 (-1), nilS]) (.own zq2) rfl rfl) (by intro v hv; simp at hv; rcases hv with rfl | rfl | rfl | rfl <;> rfl) zO zq1 ?_; intro v74 lv74 hv74 _; obtain ⟨ad74, cap74, rfl⟩ := hv74.val); refine yq4 ?_; refine TS.takeT 9 rfl zK zK zK zK (PV.nilCheck rfl) Wanted.none rfl rfl ?_; refine TS.takeT 10 rfl zK zK zK zK (PV.fieldAddr rfl) Wanted.none rfl rfl ?_; refine TS.take 11 rfl zK zK zK zK (PV.fieldAddr rfl) Wanted.none rfl rfl ?_
  refine TS.ways [12] zK rfl zq20 ⟨⟨_, rfl, ?_⟩, trivial⟩
  refine yq75 ?_; refine J5 ?_; refine yq1 ?_; refine J5 ?_
  exact T.retW (Lv.finW (lv74 ++ [rdB b (.slice ava n cva) nilS (.slice ad74 1 cap74) nilS nilS true]) zq4 (RV.tmp rfl rfl) ⟨rfl, rfl, ad74, cap74, lv74, hv74, rfl⟩)

end Go.Proofs.YtecogbhbkccblaaGreatDoor
namespace Go.Proofs.YtecogbhbkccblaaGreatDoor
open Go.RowKit


theorem beginRegion_fn (b : Nat) (ava ax : Option Addr) (n cva nx cx : Nat) (H : Hp) :
    FnW Tryz.prog 135 #[.pointer (some ⟨b, 0, none⟩), tgV false bS nilS] H [rdB b (.slice ava n cva) nilS (.slice ax nx cx) nilS nilS true]
      (fun u H' l' => u = .int .i64 0 ∧ H' = H ∧ ∃ ao co lvo, Vec 110 4 (.slice ao 1 co) lvo 1 [.string bS, .int .i64 0, .int .i64 0, nilS] ∧ l' = lvo ++ [rdB b (.slice ava n cva) nilS (.slice ax nx cx) nilS (.slice ao 1 co) true]) := by
  refine FnW.of_T (vs := [.pointer (some ⟨b, 0, none⟩), tgV false bS nilS]) Tryz.func135 rfl rfl fun w => ?_; refine zs3 ?_; (refine T.box Wanted.none rfl rfl zq15 ?_; intro b3); refine J16 ?_; refine yq70 ?_; refine I15 ?_; refine J6 ?_
  refine J7 ?_
  (repeat refine sq ?_)
  refine T.regionS [(b3, .cells #[.bool false, .string bS, nilS] 216 (0, 0)), rdB b (.slice ava n cva) nilS (.slice ax nx cx) nilS nilS true] 20 zK ?_; refine yq7 ?_; refine yq34 ?_; refine yq104 ?_; refine TS.take 5 rfl zK zK zK zK (PV.fieldAddr rfl) Wanted.none rfl rfl ?_; refine TS.take 6 rfl zK zK zK zK (PV.load1 rfl zq0 rfl) Wanted.none rfl rfl ?_; refine TS.take 7 rfl zK zK zK zK (PV.move rfl) Wanted.none rfl rfl ?_; refine TS.take 8 rfl zK zK zK zK (PV.nilCheck rfl) Wanted.none rfl rfl ?_; refine TS.take 9 rfl zK zK zK zK (PV.fieldAddr rfl) Wanted.none rfl rfl ?_; refine TS.take 10 rfl zK zK zK zK (PV.fieldAddr rfl) Wanted.none rfl rfl ?_; refine TS.take 11 rfl zK zK zK zK (PV.load1 rfl zq0 rfl) Wanted.none rfl rfl ?_; refine TS.take 12 rfl zK zK zK zK (PV.lenSl rfl) Wanted.none rfl rfl ?_; refine TS.take 13 rfl zK zK zK zK (PV.fieldAddr rfl) Wanted.none rfl rfl ?_; refine TS.take 14 rfl zK zK zK zK (PV.load1 rfl zq0 rfl) Wanted.none rfl rfl ?_; refine TS.take 15 rfl zK zK zK zK (PV.build rfl zq12) Wanted.none rfl rfl ?_
  refine TS.ways [16] zK rfl zq20 ⟨⟨_, rfl, ?_⟩, trivial⟩
  (refine T.buildSlice Wanted.none rfl rfl zq11 zX zX ?_; intro b47); refine yq4 ?_
  refine yq45 ?_
  (refine T.appendP (lv := []) Wanted.none rfl rfl rfl (Vec.nil 110 4) (Src.cells (m := 1) (ys := [.string bS, .int .i64 0, .int .i64 0, nilS]) (.own zq2) rfl rfl) (by intro v hv; simp at hv; rcases hv with rfl | rfl | rfl | rfl <;> rfl) zO zq1 ?_; intro v48 lv48 hv48 _; obtain ⟨ad48, cap48, rfl⟩ := hv48.val); refine yq4 ?_; refine TS.takeT 18 rfl zK zK zK zK (PV.nilCheck rfl) Wanted.none rfl rfl ?_; refine TS.take 19 rfl zK zK zK zK (PV.fieldAddr rfl) Wanted.none rfl rfl ?_
  refine TS.ways [20] zK rfl zq20 ⟨⟨_, rfl, ?_⟩, trivial⟩
  refine yq75 ?_; refine J4 ?_
  exact T.retW (Lv.finW (lv48 ++ [rdB b (.slice ava n cva) nilS (.slice ax nx cx) nilS (.slice ad48 1 cap48) true]) zq4 (RV.tmp rfl rfl) ⟨rfl, rfl, ad48, cap48, lv48, hv48, rfl⟩)
theorem cntExt (s : ByteArray) (c : UInt8) (w : World) : (callFunc 241 [Value.string s, .int .u8 (c.toNat : Int)].toArray).run Tryz.prog w = .ok (.value (.int .i64 (Lib.countByte s.data.toList c : Nat))) w := by
  rw [run_callFunc_extern Tryz.func241 zK zK zK (e := Extern.BytealgCount.count) zK, Lib.run_countString]
  simp
theorem count_fn (s t : ByteArray) (c : UInt8) (ht : t = ⟨#[c]⟩) (H : Hp) : Fn Tryz.prog 232 #[.string s, .string t] H (fun u _ => u = .int .i64 (Lib.countByte s.data.toList c : Nat)) := by
  have hsz : t.size = 1 := by rw [ht]; rfl
  have hc : t.data.toList[(0 : Int).toNat]? = some c := by rw [ht]; rfl
  refine Fn.of_T (vs := [.string s, .string t]) Tryz.func232 rfl rfl fun w => ?_; refine J25 ?_; refine yq106 ?_; refine sv (PV.callEx rfl (cntExt s c)) ?_; refine J2 ?_
  exact T.retF (Lv.fin (RV.tmp rfl rfl) rfl)
theorem genSplit_fn (s t : ByteArray) (c : UInt8) (ht : t = ⟨#[c]⟩) (hn : Lib.countByte s.data.toList c = 0) (hs : 1 ≤ s.size ∧ s.size ≤ 1000) (H : Hp) : Fn Tryz.prog 217 #[.string s, .string t, .int .i64 0, .int .i64 (-1)] H (fun u H' => StL H' u [s]) := by
  have hct := count_fn s t c ht H
  rw [hn] at hct
  have hte : decide (t = ⟨#[]⟩) = false := decide_eq_false (by rw [ht]; intro h; cases h)
  refine Fn.of_T (vs := [.string s, .string t, .int .i64 0, .int .i64 (-1)]) Tryz.func217 rfl rfl fun w => ?_; refine J18 ?_; refine yq6 ?_; refine J11 ?_; refine T.callV Wanted.none rfl rfl (hct) ?_; refine J9 ?_; refine sv (PV.min2 rfl rfl) ?_; refine J5 ?_
  rw [show min (((0 : Nat) : Int) + 1) ((s.size : Int) + 1) = ((1 : Nat) : Int) by omega]
  refine T.makeSliceN (n := 1) Wanted.none rfl rfl rfl zO ?_
  intro v lv hv
  obtain ⟨bv, cv, rfl⟩ := hv.ptr zO
  have hcv : 1 ≤ cv := (hv.row (by simp)).2.1
  refine J14 ?_; refine T.rounds 1 ?_; refine J15 ?_; (refine T.storeVecP (lv := lv) Wanted.none rfl rfl rfl hv (by simp) zq1 ?_; intro lvh hvh); refine J6 ?_; refine sv (PV.sliceH rfl rfl zO) ?_; refine J2 ?_; refine T.freezeP (lv := lvh) hvh zq1 ?_
  intro Ha hla hsa
  exact T.retF (Lv.fin (RV.tmp rfl rfl) (by simpa [StL, encT] using hsa))
theorem split_fn (s t : ByteArray) (c : UInt8) (ht : t = ⟨#[c]⟩) (hn : Lib.countByte s.data.toList c = 0) (hs : 1 ≤ s.size ∧ s.size ≤ 1000) (H : Hp) : Fn Tryz.prog 186 #[.string s, .string t] H (fun u H' => StL H' u [s]) := by
  have hg := genSplit_fn s t c ht hn hs H
  refine Fn.of_T (vs := [.string s, .string t]) Tryz.func186 rfl rfl fun w => ?_; refine J8 ?_; refine T.call Wanted.none rfl rfl hg ?_
  rintro u H1 hle hu
  refine J2 ?_
  exact T.retF (Lv.fin (RV.tmp rfl rfl) hu)

end Go.Proofs.YtecogbhbkccblaaGreatDoor
namespace Go.Proofs.YtecogbhbkccblaaGreatDoor
open Go.RowKit


theorem errV_fn (nm v : ByteArray) (H : Hp) (hv : vvE v = 0) : Fn Tryz.prog 188 #[.agg #[.string nm, .bool false], .string v] H (fun u _ => u = .int .i64 0) := by
  have hvv := vv_fn v H
  rw [hv] at hvv
  refine Fn.of_T (vs := [.agg #[.string nm, .bool false], .string v]) Tryz.func188 rfl rfl fun w => ?_; refine zs3 ?_; (refine T.box Wanted.none rfl rfl zq15 ?_; intro b2); refine J13 ?_; refine T.callV Wanted.none rfl rfl (hvv) ?_; refine J2 ?_
  exact T.retF (Lv.fin (RV.tmp rfl rfl) rfl)
abbrev bWord : ByteArray := ⟨#[119, 111, 114, 100]⟩
/-- a token's text that stands for itself -/
structure TokOk (s : ByteArray) : Prop where
  sz : 1 ≤ s.size ∧ s.size ≤ 1000
  tab : Lib.countByte s.data.toList 9 = 0
  amp : ∀ (j : Nat) (c : UInt8), s.data.toList[j]? = some c → (c.toNat : Int) ≠ 38
  ok : vvE s = 0
theorem token_fn (b : Nat) (at1 ax ar ao : Option Addr) (ba oa cva k ct nx cx nr cr no co : Nat) (lvt : List (Nat × Obj)) (xs : List Value) (s : ByteArray) (H : Hp) (hk : k ≤ 10) (hva : SlR H 2 (.slice (some ⟨ba, oa, none⟩) 1 cva) 1 [.string bWord, .bool false]) (hvt : Vec 28 1 (.slice at1 k ct) lvt k xs) (hs : TokOk s) :
    FnW Tryz.prog 133 #[.pointer (some ⟨b, 0, none⟩), .string s] H (lvt ++ [rdB b (.slice (some ⟨ba, oa, none⟩) 1 cva) (.slice at1 k ct) (.slice ax nx cx) (.slice ar nr cr) (.slice ao no co) true])
      (fun u H' l' => u = .agg #[.int .i64 0, .int .i64 0] ∧ ∃ at2 ct2 lvt2 v, Vec 28 1 (.slice at2 (k + 1) ct2) lvt2 (k + 1) (xs ++ [v]) ∧ StL H' v [s] ∧ l' = lvt2 ++ [rdB b (.slice (some ⟨ba, oa, none⟩) 1 cva) (.slice at2 (k + 1) ct2) (.slice ax nx cx) (.slice ar nr cr) (.slice ao no co) true]) := by
  obtain ⟨h1, h2, h3, h4⟩ := hs
  have hsp := split_fn s ⟨#[9]⟩ 9 rfl h2 h1 H
  refine FnW.of_T (vs := [.pointer (some ⟨b, 0, none⟩), .string s]) Tryz.func133 rfl rfl fun w => ?_; refine zs3 ?_; refine sy fun b4 => ?_; refine J39 ?_; refine T.call Wanted.none rfl rfl hsp ?_
  rintro u H1 hle1 hu
  have hu1 : SlR H1 1 u 1 [.string s] := hu
  clear hu
  obtain ⟨adu, capu, rfl⟩ := hu1.len
  obtain ⟨bu, ou, rfl, hsub⟩ := RowL.at (l := [s]) encT_len hu1 (i := 0) rfl
  unfold encT at hsub
  obtain ⟨_, _, e, hsub2⟩ := RowL.at (l := [(bWord, false)]) encAt_len (hva.mono hle1) (i := 0) rfl
  injection e with e
  injection e with e1 e2
  subst e1 e2
  unfold encAt at hsub2
  have hue := unesc_fn s H1 h1.2 h3
  have hev := errV_fn bWord s H1 h4
  refine J4 ?_; refine T.rounds 2 ?_; refine J12 ?_; refine yq10 ?_; refine J20 ?_; refine T.callV Wanted.none rfl rfl (hue) ?_; refine J5 ?_
  refine J22 ?_; refine yq20 ?_; refine sm ?_; refine T.callV Wanted.none rfl rfl (hev) ?_; refine J13 ?_; (refine T.buildSlice Wanted.none rfl rfl zq11 zX zX ?_; intro b78); (refine T.appendP (lv := []) Wanted.none rfl rfl rfl (Vec.nil 9 1) (Src.cells (m := 1) (ys := [.string s]) (.own zq2) rfl rfl) (by intro v hv; rw [List.mem_singleton] at hv; subst hv; rfl) zO zq1 ?_; intro v79 lv79 hv79 _; obtain ⟨ad79, cap79, rfl⟩ := hv79.val); refine J6 ?_
  refine J9 ?_; refine T.again ?_; refine J22 ?_; refine T.freezeP (lv := lv79) hv79 zq1 ?_
  intro H2 hle2 hsl2
  refine J9 ?_; (refine T.buildSlice Wanted.none rfl rfl zq11 zX zX ?_; intro b105); (refine T.appendP (lv := lvt) Wanted.none rfl rfl rfl hvt (Src.cells (m := 1) (ys := [.slice ad79 (0 + 1) cap79]) (.own zq2) rfl rfl) (by intro v hv; rw [List.mem_singleton] at hv; subst hv; rfl) zO zq1 ?_; intro v106 lv106 hv106 _; obtain ⟨ad106, cap106, rfl⟩ := hv106.val); refine J3 ?_; refine yq1 ?_; refine zs1 ?_; refine yq39 ?_; refine yq2 ?_; refine so ?_
  exact T.retW (Lv.finW (lv106 ++ [rdB b (.slice (some ⟨ba, oa, none⟩) 1 cva) (.slice ad106 (k + 1) cap106) (.slice ax nx cx) (.slice ar nr cr) (.slice ao no co) true]) zq4 (RV.cell rfl (by exact CV.agg rfl zq0 zX)) ⟨rfl, ad106, cap106, lv106, _, hv106, hsl2, rfl⟩)

end Go.Proofs.YtecogbhbkccblaaGreatDoor
namespace Go.Proofs.YtecogbhbkccblaaGreatDoor
open Go.RowKit


theorem endRegion_fn (b : Nat) (ava ax at1 ao : Option Addr) (n cva nx cx ct co : Nat) (lvo : List (Nat × Obj)) (H : Hp) (hvo : Vec 110 4 (.slice ao 1 co) lvo 1 [.string bS, .int .i64 0, .int .i64 0, nilS]) :
    FnW Tryz.prog 136 #[.pointer (some ⟨b, 0, none⟩), tgV true bS nilS] H (lvo ++ [rdB b (.slice ava n cva) (.slice at1 1 ct) (.slice ax nx cx) nilS (.slice ao 1 co) true])
      (fun u H' l' => u = .int .i64 0 ∧ H' = H ∧ ∃ ar cr lvr ao2 co2, Vec 110 4 (.slice ar 1 cr) lvr 1 [.string bS, .int .i64 0, .int .i64 1, nilS] ∧ l' = lvr ++ [rdB b (.slice ava n cva) (.slice at1 1 ct) (.slice ax nx cx) (.slice ar 1 cr) (.slice ao2 0 co2) true]) := by
  obtain ⟨bo, co', hve⟩ := hvo.ptr zO
  injection hve with e1 e2 e3
  subst e1 e3
  obtain ⟨_, r1, r2, tl, rfl, r3⟩ := hvo.row (by simp)
  refine FnW.of_T (vs := [.pointer (some ⟨b, 0, none⟩), tgV true bS nilS]) Tryz.func136 rfl rfl fun w => ?_; refine zs3 ?_; (refine T.box Wanted.none rfl rfl zq15 ?_; intro b3); refine J25 ?_; refine T.rounds 1 ?_; refine yq119 ?_; refine I10 ?_
  refine I3 ?_; refine TQ.pv (PV.sneq rfl rfl) (Wanted.guard rfl rfl rfl) rfl rfl ?_; refine I2 ?_; refine J18 ?_; refine sv (PV.loadAgg rfl zq0 zX zX) ?_; refine sy fun b6 => ?_; refine yq2 ?_; refine J3 ?_; refine yq70 ?_; refine I10 ?_; refine T.condF rfl rfl ?_
  refine J10 ?_; refine yq1 ?_; refine J2 ?_; refine T.regionS [(b6, .cells #[.string bS, .int .i64 0, .int .i64 1, nilS] 110 (0, 0)), rdB b (.slice ava n cva) (.slice at1 1 ct) (.slice ax nx cx) nilS (.slice (some ⟨bo, 0, none⟩) 1 co) true] 12 zK ?_; refine yq7 ?_; refine yq34 ?_; refine yq89 ?_; refine TS.take 6 rfl zK zK zK zK (PV.loadAll rfl zq0 zX) Wanted.none rfl rfl ?_
  refine yq91 ?_
  (refine T.buildSlice Wanted.none rfl rfl zq11 zX zX ?_; intro b67); refine yq4 ?_
  refine TS.ways [8] zK rfl zq20 ⟨⟨_, rfl, ?_⟩, trivial⟩
  (refine T.appendP (lv := []) Wanted.none rfl rfl rfl (Vec.nil 110 4) (Src.cells (m := 1) (ys := [.string bS, .int .i64 0, .int .i64 1, nilS]) (.own zq2) rfl rfl) (by intro v hv; simp at hv; rcases hv with rfl | rfl | rfl | rfl <;> rfl) zO zq1 ?_; intro v68 lv68 hv68 _; obtain ⟨ad68, cap68, rfl⟩ := hv68.val); refine yq4 ?_; refine TS.takeT 9 rfl zK zK zK zK (PV.nilCheck rfl) Wanted.none rfl rfl ?_; refine TS.takeT 10 rfl zK zK zK zK (PV.fieldAddr rfl) Wanted.none rfl rfl ?_; refine TS.take 11 rfl zK zK zK zK (PV.fieldAddr rfl) Wanted.none rfl rfl ?_
  refine TS.ways [12] zK rfl zq20 ⟨⟨_, rfl, ?_⟩, trivial⟩
  refine yq75 ?_
  (repeat refine sq ?_)
  have hv0 : Vec 110 4 (.slice (some ⟨bo, 0, none⟩) 0 co) [(bo, .cells ([.string bS, .int .i64 0, .int .i64 0, nilS] ++ tl).toArray 110 (0, 0))] 0 [] := ⟨rfl, .inr ⟨bo, co, _, rfl, rfl, Nat.zero_le _, r2, r3, rfl⟩⟩
  refine T.regionS [rdB b (.slice ava n cva) (.slice at1 1 ct) (.slice ax nx cx) (.slice ad68 1 cap68) (.slice (some ⟨bo, 0, none⟩) 1 co) true] 17 zK ?_; refine yq7 ?_; refine yq34 ?_; refine yq104 ?_; refine TS.take 5 rfl zK zK zK zK (PV.move rfl) Wanted.none rfl rfl ?_; refine TS.take 6 rfl zK zK zK zK (PV.sliceH rfl rfl zO) Wanted.none rfl rfl ?_; refine TS.take 7 rfl zK zK zK zK (PV.move rfl) Wanted.none rfl rfl ?_; refine TS.take 8 rfl zK zK zK zK (PV.nilCheck rfl) Wanted.none rfl rfl ?_; refine TS.take 9 rfl zK zK zK zK (PV.fieldAddr rfl) Wanted.none rfl rfl ?_; refine TS.take 10 rfl zK zK zK zK (PV.load1 rfl zq0 rfl) Wanted.none rfl rfl ?_; refine TS.take 11 rfl zK zK zK zK (PV.move rfl) Wanted.none rfl rfl ?_; refine TS.take 12 rfl zK zK zK zK (PV.add rfl rfl zO) Wanted.none rfl rfl ?_; refine TS.take 13 rfl zK zK zK zK (PV.sliceL rfl rfl zO) Wanted.none rfl rfl ?_
  refine TS.ways [14] zK rfl zq20 ⟨⟨_, rfl, ?_⟩, trivial⟩
  (refine T.appendP (lv := [(bo, .cells ([.string bS, .int .i64 0, .int .i64 0, nilS] ++ tl).toArray 110 (0, 0))]) Wanted.none rfl rfl rfl hv0 (m := 0) (ys := []) (SlR.src SlR.empty) (by intro v hv; cases hv) zO zq1 ?_; intro v86 lv86 hv86 _; obtain ⟨ad86, cap86, rfl⟩ := hv86.val); refine yq4 ?_; refine TS.takeT 15 rfl zK zK zK zK (PV.nilCheck rfl) Wanted.none rfl rfl ?_; refine TS.take 16 rfl zK zK zK zK (PV.fieldAddr rfl) Wanted.none rfl rfl ?_
  refine yq45 ?_
  refine yq75 ?_; refine J4 ?_
  exact T.retW (Lv.finW (lv68 ++ [rdB b (.slice ava n cva) (.slice at1 1 ct) (.slice ax nx cx) (.slice ad68 1 cap68) (.slice ad86 0 cap86) true]) zq4 (RV.tmp rfl rfl) ⟨rfl, rfl, ad68, cap68, lv68, ad86, cap86, hv68, rfl⟩)
theorem endText_fn (b : Nat) (ava ax at1 ao ar : Option Addr) (n cva cx ct co nr cr : Nat) (lvx : List (Nat × Obj)) (kv : Value) (H : Hp) (hvx : Vec 112 4 (.slice ax 1 cx) lvx 1 [.string bT, .int .i64 0, .int .i64 (-1), nilS]) :
    FnW Tryz.prog 138 #[.pointer (some ⟨b, 0, none⟩), tgV true bText nilS] H (lvx ++ [rdB b (.slice ava n cva) (.slice at1 2 ct) (.slice ax 1 cx) (.slice ar nr cr) (.slice ao 0 co) true])
      (fun u H' l' => u = .int .i64 0 ∧ H' = H ∧ ∃ lvx2, Vec 112 4 (.slice ax 1 cx) lvx2 1 [.string bT, .int .i64 0, .int .i64 2, nilS] ∧ l' = lvx2 ++ [rdB b (.slice ava n cva) (.slice at1 2 ct) (.slice ax 1 cx) (.slice ar nr cr) (.slice ao 0 co) false]) := by
  obtain ⟨bo, co', hve⟩ := hvx.ptr zO
  injection hve with e1 e2 e3
  subst e1 e3
  obtain ⟨_, r1, r2, tl, rfl, r3⟩ := hvx.row (by simp)
  refine FnW.of_T (vs := [.pointer (some ⟨b, 0, none⟩), tgV true bText nilS]) Tryz.func138 rfl rfl fun w => ?_; refine zs3 ?_; (refine T.box Wanted.none rfl rfl zq15 ?_; intro b3); refine J28 ?_; refine yq70 ?_; refine I10 ?_
  refine I5 ?_; refine yq119 ?_; refine I12 ?_; refine J13 ?_; refine yq1 ?_; refine J6 ?_; refine yq1 ?_; refine J4 ?_
  refine so ?_
  have hv2 : Vec 112 4 (.slice (some ⟨bo, 0, none⟩) 1 cx) [(bo, .cells ([.string bT, .int .i64 0, .int .i64 2, nilS] ++ tl).toArray 112 (0, 0))] 1 [.string bT, .int .i64 0, .int .i64 2, nilS] := ⟨rfl, .inr ⟨bo, cx, _, rfl, rfl, r1, r2, by simpa using r3, rfl⟩⟩
  exact T.retW (Lv.finW ([(bo, .cells ([.string bT, .int .i64 0, .int .i64 2, nilS] ++ tl).toArray 112 (0, 0))] ++ [rdB b (.slice ava n cva) (.slice at1 2 ct) (.slice (some ⟨bo, 0, none⟩) 1 cx) (.slice ar nr cr) (.slice ao 0 co) false]) zq4 (RV.tmp rfl rfl) ⟨rfl, rfl, _, hv2, rfl⟩)

end Go.Proofs.YtecogbhbkccblaaGreatDoor
