/- huffman: the table of codes.
   huffman: reading a symbol. -/
import Derived.Test.YtecogbhbkccblaaGreatDoorH2
set_option maxRecDepth 4000
set_option maxHeartbeats 40000000
set_option linter.all false
namespace Go.Proofs.YtecogbhbkccblaaGreatDoor
open Go.RowKit


instance : ArrOf Tryz.prog 254 16 76 1 := ⟨Tryz.underlying254, fun _ => by kernel_rfl⟩
instance : ArrOf Tryz.prog 255 16 27 1 := ⟨Tryz.underlying255, fun _ => by kernel_rfl⟩
/-- the cells of a table -/
def tbC (fi : Nat → Nat) (svv : List Value) (lg : Nat) : List Value := nV .u64 (tabF 16 fi) ++ (svv ++ [.int .i64 (lg : Int)])
theorem tbC_len (fi : Nat → Nat) {svv : List Value} (h : svv.length = 16) (lg : Nat) : (tbC fi svv lg).length = 33 := by
  unfold tbC
  simp only [List.length_append, nV_len, tabF_len, h, List.length_singleton]
theorem tbC_fi (fi : Nat → Nat) (svv : List Value) (lg : Nat) {i : Nat} (h : i < 16) : (tbC fi svv lg)[i]? = some (.int .u64 (fi i : Int)) := by
  unfold tbC
  rw [List.getElem?_append_left (by rw [nV_len, tabF_len]; exact h)]
  exact nV_get (tabF_get fi h)
theorem tbC_sv (fi : Nat → Nat) {svv : List Value} (lg : Nat) {i : Nat} {v : Value} (hi : i < 16) (hv : svv[i]? = some v) : (tbC fi svv lg)[16 + i]? = some v := by
  unfold tbC
  have h1 := (List.getElem?_eq_some_iff.1 hv).1
  rw [List.getElem?_append_right (by rw [nV_len, tabF_len]; omega), nV_len, tabF_len, show 16 + i - 16 = i by omega, List.getElem?_append_left h1, hv]
theorem tbC_lg (fi : Nat → Nat) {svv : List Value} (h : svv.length = 16) (lg : Nat) : (tbC fi svv lg)[32]? = some (.int .i64 (lg : Int)) := by
  unfold tbC
  rw [List.getElem?_append_right (by rw [nV_len, tabF_len]; omega), nV_len, tabF_len, List.getElem?_append_right zO, h]
  rfl
theorem tbC_setfi (fi : Nat → Nat) (svv : List Value) (lg : Nat) {i x : Nat} (h : i < 16) : (tbC fi svv lg).set i (.int .u64 (x : Int)) = tbC (fun j => if j = i then x else fi j) svv lg := by
  unfold tbC
  rw [List.set_append_left _ _ (by rw [nV_len, tabF_len]; exact h), nV_set, tabF_set]
theorem tbC_setsv (fi : Nat → Nat) {svv : List Value} (lg : Nat) {i : Nat} {v : Value} (hi : i < svv.length) : (tbC fi svv lg).set (16 + i) v = tbC fi (svv.set i v) lg := by
  unfold tbC
  rw [List.set_append_right _ _ (by rw [nV_len, tabF_len]; omega), nV_len, tabF_len, show 16 + i - 16 = i by omega, List.set_append_left _ _ hi]
theorem tbC_setlg (fi : Nat → Nat) {svv : List Value} (h : svv.length = 16) (lg x : Nat) : (tbC fi svv lg).set 32 (.int .i64 (x : Int)) = tbC fi svv x := by
  unfold tbC
  rw [List.set_append_right _ _ (by rw [nV_len, tabF_len]; omega), nV_len, tabF_len, List.set_append_right _ _ zO, h]
  rfl
/-- a table of codes, frozen -/
def TabOk (H : Hp) (tb : Nat) (f : Nat → Nat) (o : List Nat) : Prop :=
  ∃ svv lg, svv.length = 16 ∧ H tb = some (.cells (tbC (fiO f o) svv lg).toArray 257 (0, 0)) ∧ BunF H .i64 svv ((List.range 16).map (syO f o)) ∧ (∀ (k : Nat) (hk : k < o.length), f o[k] ≤ lg) ∧ lg ≤ 15
theorem syL_set {f : Nat → Nat} {o : List Nat} {k s : Nat} (hs : o[k]? = some s) (hf : f s < 16) : ((List.range 16).map (syK f o k)).set (f s) (syK f o k (f s) ++ [s]) = (List.range 16).map (syK f o (k + 1)) := by
  have hk := (List.getElem?_eq_some_iff.1 hs).1
  have hg := (List.getElem?_eq_some_iff.1 hs).2
  refine List.ext_getElem? fun i => ?_
  rw [List.getElem?_set, List.length_map, List.length_range, List.getElem?_map, List.getElem?_map]
  rcases Nat.lt_or_ge i 16 with hi | hi
  · rw [List.getElem?_range hi]
    simp only [Option.map_some]
    rw [syK_succ hk, hg]
    by_cases e : f s = i
    · subst e; rw [if_pos rfl, if_pos hf, if_pos rfl]
    · rw [if_neg e, if_neg e, List.append_nil]
  · rw [if_neg zO, List.getElem?_eq_none (by simpa using hi)]
    rfl
structure TbG where
  k : Nat
  svv : List Value
  lg : Nat
  ls : List (Nat × Obj)
theorem tableOf_fn (f : Nat → Nat) (n : Nat) (av : Value) (H : Hp) (ha : NSl H .i64 av (tabF n f)) (hc : CodeOk f n) : Fn Tryz.prog 125 #[av] H (fun u H' => ∃ tb, u = .pointer (some ⟨tb, 0, none⟩) ∧ TabOk H' tb f (ordH n f)) := by
  have hn := hc.small
  have hco := codesOf_fn f n av H ha hc
  have hio := fun H1 (h1 : H.le H1) => inOrder_fn f n av H1 (ha.mono h1) hn hc.le
  obtain ⟨o, ho⟩ : ∃ o, o = ordH n f := ⟨_, rfl⟩
  have hat := fun k hk => hc.at (k := k) hk
  have hord := hc.ord
  have hnd := ordH_nodup n f
  have hol := ordH_len n f
  rw [← ho] at hco hord hnd hol ⊢
  have hio : ∀ H1, H.le H1 → Fn Tryz.prog 179 #[av] H1 (fun u H' => NSl H' .i64 u o) := by subst ho; exact hio
  have hat : ∀ (k : Nat) (hk : k < o.length), o[k] < n ∧ 1 ≤ f o[k] := by subst ho; exact hat
  obtain ⟨ad, cap, rfl⟩ := ha.len
  have hl : (tabF n f).length = n := tabF_len n f
  have hcl2 : (codesK f o n o.length).length = n := codesK_len f o n o.length
  refine Fn.of_T (vs := [.slice ad (tabF n f).length cap]) Tryz.func125 rfl rfl fun w => ?_; refine J6 ?_; refine yq39 ?_; (refine T.box Wanted.none rfl rfl zq15 ?_; intro b9); refine J5 ?_; (refine T.call Wanted.none rfl rfl hco ?_; intro v11 H1 hle1 hv11; obtain ⟨ad11, cap11, rfl⟩ := hv11.len); refine J6 ?_; (refine T.call Wanted.none rfl rfl (hio H1 hle1) ?_; intro v13 H2 hle2 hv13; obtain ⟨ad13, cap13, rfl⟩ := hv13.len); refine J4 ?_
  have ha2 := ha.mono (hle1.trans hle2)
  have hc2 := hv11.mono hle2
  have h0 : ([.int .u64 0, .int .u64 0, .int .u64 0, .int .u64 0, .int .u64 0, .int .u64 0, .int .u64 0, .int .u64 0, .int .u64 0, .int .u64 0, .int .u64 0, .int .u64 0, .int .u64 0, .int .u64 0, .int .u64 0, .int .u64 0] : List Value) ++ (List.replicate 16 (.slice none 0 0) ++ [.int .i64 0]) = tbC (fiK f o 0) (List.replicate 16 (.slice none 0 0)) 0 := by
    unfold tbC
    rw [show tabF 16 (fiK f o 0) = List.replicate 16 0 by
      rw [← tabF_zero]
      exact tabF_congr fun i _ => by unfold fiK syK; rw [List.take_zero]; rfl]
    rfl
  refine T.ownEq (l' := (b9, .cells (tbC (fiK f o 0) (List.replicate 16 (.slice none 0 0)) 0).toArray 257 (0, 0)) :: []) (by rw [← h0]; rfl) ?_
  have hb0 : Bun 3 .i64 (List.replicate 16 (.slice none 0 0)) [] ((List.range 16).map (syK f o 0)) := by
    rw [show (List.range 16).map (syK f o 0) = List.replicate 16 [] by
      have : ∀ i, syK f o 0 i = [] := fun i => by unfold syK; rw [List.take_zero]; rfl
      rw [show syK f o 0 = fun _ => [] from funext this, List.map_const', List.length_range]]
    exact Bun.rep _ _ 16
  refine T.loopK [(14, Value.int IntKind.i64 (↑o.length : Int)), (13, Value.slice ad13 o.length cap13), (4, Value.slice ad11 (codesK f o n o.length).length cap11), (3, Value.pointer (some { block := b9, off := 0 })), (0, Value.slice ad (tabF n f).length cap)] zq8 (γ := TbG) (fun g => g.k ≤ o.length ∧ g.svv.length = 16 ∧ (∀ (j : Nat) (hj : j < o.length), j < g.k → f o[j] ≤ g.lg) ∧ g.lg ≤ 15 ∧ Bun 3 .i64 g.svv g.ls ((List.range 16).map (syK f o g.k))) (fun g => [(15, .int .i64 (g.k : Int))]) (fun g => (b9, .cells (tbC (fiK f o g.k) g.svv g.lg).toArray 257 (0, 0)) :: g.ls) (fun _ => H2) (fun g => o.length - g.k) ⟨0, List.replicate 16 (.slice none 0 0), 0, []⟩ ⟨Nat.zero_le _, by simp, fun j hj h => by dsimp only at h; omega, Nat.zero_le _, hb0⟩ zq8 zq23 rfl ?_
  rintro ⟨k, svv, lg, ls⟩ ⟨hk, hsv, hlg, hlg15, hbn⟩
  dsimp only at hk hsv hlg hlg15 hbn ⊢
  by_cases h : k < o.length
  · obtain ⟨s, hs⟩ : ∃ s, o[k]? = some s := ⟨_, List.getElem?_eq_getElem h⟩
    have hsg := (List.getElem?_eq_some_iff.1 hs).2
    obtain ⟨hsn, hs1⟩ := hat k h
    rw [hsg] at hsn hs1
    obtain ⟨b1, off1, rfl, hsub1⟩ := NSl.at hv13 hs
    have hx : (tabF n f)[s]? = some (f s) := tabF_get f hsn
    obtain ⟨b2, off2, rfl, hsub2⟩ := NSl.at ha2 hx
    have hso : s ∈ o := List.mem_of_getElem? hs
    have hcx : (codesK f o n o.length)[s]? = some (cdO f o k) := by
      have := codesK_get (f := f) hsn hso
      rw [← hsg, idxOf_at hnd h] at this
      rw [← hsg]; exact this
    obtain ⟨b3, off3, rfl, hsub3⟩ := NSl.at hc2 hcx
    have hx15 := hc.le s
    obtain ⟨x, hxe⟩ : ∃ x, x = f s := ⟨_, rfl⟩
    rw [← hxe] at hsub2 hx15 hs1
    have hxs : ((List.range 16).map (syK f o k))[x]? = some (syK f o k x) := by
      rw [List.getElem?_map, List.getElem?_range (show x < 16 by omega)]; rfl
    obtain ⟨v0, lv0, r, hsv0, hrow, hpk, hput⟩ := hbn.at hxs
    obtain ⟨a0, c0, rfl⟩ := hrow.val
    have hl1 : (tbC (fiK f o k) svv lg)[0 + 16 + (x : Int).toNat * 1]? = some (.slice a0 (syK f o k x).length c0) := by
      rw [show 0 + 16 + (x : Int).toNat * 1 = 16 + x by omega]
      exact tbC_sv _ lg zO hsv0
    have hsyl : (syK f o k x).length ≤ 1000 := by
      have h1 : (syK f o k x).length ≤ (o.take k).length := List.length_filter_le _ _
      rw [List.length_take] at h1
      omega
    obtain ⟨fk, hfk⟩ : ∃ fk : Nat → Nat, fk = fiK f o (k + 1) := ⟨_, rfl⟩
    have hd : decide ((k : Int) < (o.length : Int)) = true := decide_eq_true zO
    have hx16 : x < 16 := by omega
    refine yq94 ?_; refine yq97 ?_; refine J2 ?_
    (repeat refine sq ?_)
    refine T.cutK2 (γ := Unit) [(0, .slice (some ⟨b2, off2, none⟩) (tabF n f).length cap), (3, .pointer (some ⟨b9, 0, none⟩)), (4, .slice (some ⟨b3, off3, none⟩) (codesK f o n o.length).length cap11), (6, .int .i64 (s : Int)), (7, .int .i64 (x : Int)), (13, .slice (some ⟨b1, off1, none⟩) o.length cap13), (14, .int .i64 (o.length : Int)), (15, .int .i64 (k : Int))] (fun _ => True) (fun _ => []) (fun _ => (b9, .cells (tbC fk svv lg).toArray 257 (0, 0)) :: ls) (fun _ _ => ?_) (fun KK => ?_)
    · have hl2 : (tbC fk svv lg)[0 + 16 + (x : Int).toNat * 1]? = some (.slice a0 (syK f o k x).length c0) := by
        rw [show 0 + 16 + (x : Int).toNat * 1 = 16 + x by omega]
        exact tbC_sv _ lg hx16 hsv0
      have hspF : ∀ v, Splice (tbC fk svv lg) (0 + 16 + (x : Int).toNat * 1) [v] (tbC fk (svv.set x v) lg) := fun v => by
        rw [show 0 + 16 + (x : Int).toNat * 1 = 16 + x by omega, ← tbC_setsv _ _ zO]
        exact splice1 [] _ _ (16 + x) (by rw [tbC_len _ hsv]; omega)
      have hspL : ∀ svv' : List Value, svv'.length = 16 → Splice (tbC fk svv' lg) (0 + 32) [.int .i64 (x : Int)] (tbC fk svv' x) := fun svv' h' => by
        rw [show 0 + 32 = 32 from rfl, ← tbC_setlg _ h' lg x]
        exact splice1 [] _ _ 32 (by rw [tbC_len _ h']; decide)
      (repeat refine sq ?_)
      refine T.regionS [(b9, .cells (tbC fk svv lg).toArray 257 (0, 0))] 14 zK ?_; refine yq7 ?_; refine yq21 ?_; refine TS.take 4 rfl zK zK zK zK (PV.nilCheck rfl) Wanted.none rfl rfl ?_; refine TS.take 5 rfl zK zK zK zK (PV.fieldAddr rfl) Wanted.none rfl rfl ?_; refine TS.take 6 rfl zK zK zK zK (PV.indexArrG rfl rfl zO) Wanted.none rfl rfl ?_; refine TS.take 7 rfl zK zK zK zK (PV.load1 rfl zq0 zA) Wanted.none rfl rfl ?_; refine TS.take 8 rfl zK zK zK zK (PV.move rfl) Wanted.none rfl rfl ?_; refine TS.takeT 11 rfl zK zK zK zK (PV.nilCheck rfl) Wanted.none rfl rfl ?_; refine TS.takeT 12 rfl zK zK zK zK (PV.fieldAddr rfl) Wanted.none rfl rfl ?_
      refine yq68 ?_
      (refine T.buildSlice Wanted.none rfl rfl zq11 zX zX ?_; intro b49); refine yq4 ?_
      refine TS.ways [10] zK rfl zq20 ⟨⟨_, rfl, ?_⟩, trivial⟩
      (refine T.appendP (lv := lv0) Wanted.none rfl rfl rfl hrow (Src.cells (m := 1) (ys := nV .i64 [s]) (.own zq2) rfl rfl) (nV_one _ _) zO (by first | exact Pick.leave (Pick.leave hpk) | exact Pick.leave hpk) ?_; intro v50 lv50 hv50 _; have hv50 := NRow.app hv50; obtain ⟨ad50, cap50, rfl⟩ := hv50.val); refine yq4 ?_; refine TS.take 13 rfl zK zK zK zK (PV.indexArrG rfl rfl zO) Wanted.none rfl rfl ?_
      refine TS.ways [14] zK rfl zq20 ⟨⟨_, rfl, ?_⟩, trivial⟩
      (refine T.store1 Wanted.none rfl rfl rfl zq14 (hspF _) ?_); refine yq11 ?_; refine J5 ?_; (refine T.store1 Wanted.none rfl rfl rfl zq14 (hspL _ (by rw [List.length_set]; exact hsv)) ?_); refine J6 ?_
      obtain ⟨ls', hb', hperm⟩ := hput _ lv50 _ hv50
      refine T.sel (l' := (b9, .cells (tbC fk (svv.set x (.slice ad50 (syK f o k x ++ [s]).length cap50)) x).toArray 257 (0, 0)) :: (lv50 ++ r)) zq23 ?_; refine T.perm (hperm.cons _) ?_
      subst hfk
      rw [hxe, syL_set hs (by rw [← hxe]; exact hx16), ← hxe] at hb'
      exact T.nextP ⟨k + 1, svv.set x (.slice ad50 (syK f o k x ++ [s]).length cap50), x, ls'⟩ ⟨by dsimp only; omega, by dsimp only; rw [List.length_set]; exact hsv, fun j hj hjk => by
        dsimp only at hjk ⊢
        have := hord.can.mono j k zO h
        rw [List.getElem?_eq_getElem hj, hs, Option.getD_some, Option.getD_some, ← hxe] at this
        exact this, hx15, hb'⟩ zE zq8 zq23 rfl
    · by_cases hz : (syK f o k x).length = 0
      · have hd1 : decide (((syK f o k x).length : Int) = 0) = true := decide_eq_true zO
        have hfe : tbC fk svv lg = (tbC (fiK f o k) svv lg).set x (.int .u64 (cdO f o k : Int)) := by
          rw [tbC_setfi _ _ _ hx16]
          unfold tbC
          congr 2
          refine tabF_congr fun i _ => ?_
          rw [hfk, fiK_succ hord h, hsg, ← hxe]
          by_cases e : i = x
          · subst e; rw [if_pos rfl, if_pos ⟨rfl, hz⟩]
          · rw [if_neg e, if_neg (fun hh => e hh.1.symm)]
        have hsp : Splice (tbC (fiK f o k) svv lg) (0 + 0 + (x : Int).toNat * 1) [.int .u64 (cdO f o k : Int)] (tbC fk svv lg) := by
          rw [hfe, show 0 + 0 + (x : Int).toNat * 1 = x by omega]
          exact splice1 [] _ _ x (by rw [tbC_len _ hsv]; omega)
        refine J6 ?_; refine yq43 ?_; refine J3 ?_; refine yq9 ?_
        (repeat refine sq ?_)
        refine T.regionS [] 9 zK ?_; refine yq7 ?_; refine yq21 ?_; refine TS.take 4 rfl zK zK zK zK (PV.indexAddr rfl rfl zO) Wanted.none rfl rfl ?_; refine TS.take 5 rfl zK zK zK zK (PV.loadSub0 rfl zA) Wanted.none rfl rfl ?_; refine TS.takeT 6 rfl zK zK zK zK (PV.nilCheck rfl) Wanted.none rfl rfl ?_; refine TS.takeT 7 rfl zK zK zK zK (PV.fieldAddr rfl) Wanted.none rfl rfl ?_; refine TS.take 8 rfl zK zK zK zK (PV.indexArrG rfl rfl zO) Wanted.none rfl rfl ?_
        refine yq68 ?_
        (refine T.store1 Wanted.none rfl rfl rfl .head hsp ?_); refine yq11 ?_
        exact KK () _ _ trivial zq8 zq23
      · have hd1 : decide (((syK f o k x).length : Int) = 0) = false := decide_eq_false zO
        have hfe : tbC (fiK f o k) svv lg = tbC fk svv lg := by
          unfold tbC
          congr 2
          refine tabF_congr fun i _ => ?_
          rw [hfk, fiK_succ hord h, hsg, ← hxe, if_neg]
          rintro ⟨rfl, hz2⟩
          exact hz hz2
        refine J6 ?_; refine yq43 ?_; refine J3 ?_; refine yq6 ?_; refine T.skip ?_
        rw [hfe]
        exact KK () _ _ trivial zq8 zq23
  · have hd : decide ((k : Int) < (o.length : Int)) = false := decide_eq_false zO
    obtain rfl : k = o.length := by omega
    refine yq44 ?_; refine J6 ?_; refine T.freezeBunP hbn (.leave .all) ?_
    intro H3 hle3 hb3
    refine T.freezeLit ?_
    intro H4 hle4 hH4
    refine T.retF (Lv.fin (RV.tmp rfl rfl) ⟨b9, rfl, svv, lg, hsv, ?_, ?_, fun j hj => hlg j hj hj, hlg15⟩)
    · rw [hH4, show tbC (fiK f o o.length) svv lg = tbC (fiO f o) svv lg by
        unfold tbC
        congr 2
        exact tabF_congr fun i _ => fiK_all f o i]
    · rw [show (List.range 16).map (syO f o) = (List.range 16).map (syK f o o.length) from List.map_congr_left fun i _ => (syK_all f o i).symm]
      exact hb3.mono hle4

end Go.Proofs.YtecogbhbkccblaaGreatDoor
namespace Go.Proofs.YtecogbhbkccblaaGreatDoor
open Go.RowKit


theorem fiO_lt {f : Nat → Nat} {o : List Nat} (h : Ord f o) (hf : ∀ s, f s ≤ 15) (n : Nat) : fiO f o n < 32768 := by
  unfold fiO
  split
  · decide
  · rename_i h0
    have h1 := sy_get h n (t := 0) zO
    have h2 := cdO_lt h (k := loO f o n) zO
    have h3 : 2 ^ f (o[loO f o n]?.getD 0) ≤ 2 ^ 15 := Nat.pow_le_pow_right zD (hf _)
    exact Nat.lt_of_lt_of_le h2 h3
theorem syO_len (f : Nat → Nat) (o : List Nat) (n : Nat) : (syO f o n).length ≤ o.length := List.length_filter_le _ _
/-- what lies in a table -/
theorem TabOk.open {H : Hp} {tb : Nat} {f : Nat → Nat} {o : List Nat} (h : TabOk H tb f o) : ∃ svv lg, svv.length = 16 ∧ H tb = some (.cells (tbC (fiO f o) svv lg).toArray 257 (0, 0)) ∧ (∀ j, j < 16 → ∃ ad cp, svv[j]? = some (.slice ad (syO f o j).length cp) ∧ NSl H .i64 (.slice ad (syO f o j).length cp) (syO f o j)) ∧ (∀ (k : Nat) (hk : k < o.length), f o[k] ≤ lg) ∧ lg ≤ 15 := by
  obtain ⟨svv, lg, h1, h2, h3, h4, h5⟩ := h
  refine ⟨svv, lg, h1, h2, fun j hj => ?_, h4, h5⟩
  obtain ⟨v, e1, e2⟩ := h3.at (i := j) (x := syO f o j) (by rw [List.getElem?_map, List.getElem?_range hj]; rfl)
  obtain ⟨ad, cp, rfl⟩ := e2.len
  exact ⟨ad, cp, e1, e2⟩
theorem hbegins_fn (f : Nat → Nat) (o : List Nat) (tb k0 p : Nat) (H : Hp) (ht : TabOk H tb f o) (hord : Ord f o) (hf : ∀ s, f s ≤ 15) (hol : o.length ≤ 1000) (hk : k0 < o.length) (hp : p ≤ f o[k0]) : Fn Tryz.prog 181 #[.pointer (some ⟨tb, 0, none⟩), .int .u64 ((cdO f o k0 / 2 ^ (f o[k0] - p) : Nat) : Int), .int .i64 (p : Int)] H (fun u _ => u = .bool true) := by
  obtain ⟨svv, lg, hsv, hH, hsy, hlg, hlg15⟩ := ht.open
  obtain ⟨q, hq⟩ : ∃ q, q = f o[k0] := ⟨_, rfl⟩
  have hqg : f (o[k0]?.getD 0) = q := by rw [List.getElem?_eq_getElem hk, hq]; rfl
  have hql := hlg k0 hk
  have hbeg := read_begins hord hk hqg p
  obtain ⟨v, hv⟩ : ∃ v, v = cdO f o k0 / 2 ^ (q - p) := ⟨_, rfl⟩
  rw [← hq] at hp hql ⊢
  rw [← hv] at hbeg ⊢
  refine Fn.of_T (vs := [.pointer (some ⟨tb, 0, none⟩), .int .u64 (v : Int), .int .i64 (p : Int)]) Tryz.func181 rfl rfl fun w => ?_
  have hlgc : (tbC (fiO f o) svv lg)[0 + 32]? = some (.int .i64 (lg : Int)) := tbC_lg _ hsv lg
  refine J11 ?_; refine T.loopK [(0, Value.pointer (some { block := tb, off := 0 })), (1, Value.int IntKind.u64 (↑v : Int)), (2, Value.int IntKind.i64 (↑p : Int))] zq8 (γ := Nat) (fun j => p ≤ j ∧ j ≤ q) (fun j => [(7, .int .i64 (j : Int))]) (fun _ => []) (fun _ => H) (fun j => q - j) p ⟨Nat.le_refl _, hp⟩ ⟨rfl, trivial⟩ zq23 rfl ?_
  rintro j ⟨hj1, hj2⟩
  have hj16 : j < 16 := by omega
  obtain ⟨aj, cj, hsj, _⟩ := hsy j hj16
  obtain ⟨m, hm⟩ : ∃ m, m = (syO f o j).length := ⟨_, rfl⟩
  obtain ⟨fi, hfi⟩ : ∃ fi, fi = fiO f o j := ⟨_, rfl⟩
  have hfl := fiO_lt hord hf j
  have hml := syO_len f o j
  have hc1 : (tbC (fiO f o) svv lg)[0 + 16 + (j : Int).toNat * 1]? = some (.slice aj m cj) := by
    rw [show 0 + 16 + (j : Int).toNat * 1 = 16 + j by omega, hm]
    exact tbC_sv _ lg hj16 hsj
  have hc2 : (tbC (fiO f o) svv lg)[0 + 0 + (j : Int).toNat * 1]? = some (.int .u64 (fi : Int)) := by
    rw [show 0 + 0 + (j : Int).toNat * 1 = j by omega, hfi]
    exact tbC_fi _ svv lg hj16
  rw [← hm] at hml
  rw [← hfi] at hfl
  have hd : decide ((j : Int) ≤ (lg : Int)) = true := decide_eq_true zO
  by_cases hm0 : 0 < m
  · have hd0 : decide ((0 : Int) < (m : Int)) = true := decide_eq_true zO
    obtain ⟨x1, hx1⟩ : ∃ x1, x1 = (fi + m - 1) / 2 ^ (j - p) := ⟨_, rfl⟩
    obtain ⟨x2, hx2⟩ : ∃ x2, x2 = fi / 2 ^ (j - p) := ⟨_, rfl⟩
    have hs1 : shrI .u64 ((fi : Int) + (m : Int) - 1) ((j : Int) - (p : Int)) = (x1 : Int) := by
      have h1 := shr64 (x := fi + m - 1) (i := j - p) zO
      rw [Nat.shiftRight_eq_div_pow, ← hx1] at h1
      rw [show (fi : Int) + (m : Int) - 1 = ((fi + m - 1 : Nat) : Int) by omega, show (j : Int) - (p : Int) = ((j - p : Nat) : Int) by omega]
      exact h1
    have hs2 : shrI .u64 (fi : Int) ((j : Int) - (p : Int)) = (x2 : Int) := by
      have h1 := shr64 (x := fi) (i := j - p) zO
      rw [Nat.shiftRight_eq_div_pow, ← hx2] at h1
      rw [show (j : Int) - (p : Int) = ((j - p : Nat) : Int) by omega]
      exact h1
    by_cases hA : v ≤ x1
    · have hdA : decide ((v : Int) ≤ (x1 : Int)) = true := decide_eq_true zO
      by_cases hB : x2 ≤ v
      · have hdB : decide ((x2 : Int) ≤ (v : Int)) = true := decide_eq_true zO
        have hs1 := hs1
        have hs2 := hs2
        refine J7 ?_; refine yq43 ?_; refine J2 ?_; refine yq9 ?_; refine J10 ?_; refine yq43 ?_; refine J8 ?_; refine yq69 ?_; refine yq0 ?_; refine yq52 ?_; refine yq47 ?_; refine yq0 ?_; refine T.pv (PV.convB rfl zO) (Wanted.guard rfl rfl zA) rfl rfl ?_; refine yq103 ?_; refine yq87 ?_
        refine yq116 ?_; refine yq101 ?_; refine sm ?_; refine yq69 ?_; refine yq0 ?_; refine yq52 ?_; refine yq47 ?_; refine yq87 ?_; refine yq116 ?_; refine T.pv (PV.geq rfl rfl) (Wanted.guard rfl rfl zA) rfl rfl ?_; refine sv (PV.pickT rfl zA rfl) ?_; refine so ?_; refine yq9 ?_; refine J4 ?_
        exact T.retF (Lv.fin (RV.tmp rfl rfl) rfl)
      · have hdB : decide ((x2 : Int) ≤ (v : Int)) = false := decide_eq_false zO
        have hjq : j < q := by
          rcases Nat.lt_or_eq_of_le hj2 with h | h
          · exact h
          · subst h; rw [← hm, ← hfi, ← hx1, ← hx2] at hbeg; omega
        have hs1 := hs1
        have hs2 := hs2
        refine J7 ?_; refine yq43 ?_; refine J2 ?_; refine yq9 ?_; refine J10 ?_; refine yq43 ?_; refine J8 ?_; refine yq69 ?_; refine yq0 ?_; refine yq52 ?_; refine yq47 ?_; refine yq0 ?_; refine T.pv (PV.convB rfl zO) (Wanted.guard rfl rfl zA) rfl rfl ?_; refine yq103 ?_; refine yq87 ?_
        refine yq116 ?_; refine yq101 ?_; refine sm ?_; refine yq69 ?_; refine yq0 ?_; refine yq52 ?_; refine yq47 ?_; refine yq87 ?_; refine yq116 ?_; refine T.pv (PV.geq rfl rfl) (Wanted.guard rfl rfl zA) rfl rfl ?_; refine sv (PV.pickT rfl zA rfl) ?_; refine so ?_; refine yq6 ?_; refine J7 ?_
        exact T.nextP (j + 1) ⟨by omega, by omega⟩ zO zq8 zq23 rfl
    · have hdA : decide ((v : Int) ≤ (x1 : Int)) = false := decide_eq_false zO
      have hjq : j < q := by
        rcases Nat.lt_or_eq_of_le hj2 with h | h
        · exact h
        · subst h; rw [← hm, ← hfi, ← hx1, ← hx2] at hbeg; omega
      have hs1 := hs1
      have hs2 := hs2
      refine J7 ?_; refine yq43 ?_; refine J2 ?_; refine yq9 ?_; refine J10 ?_; refine yq43 ?_; refine J8 ?_; refine yq69 ?_; refine yq0 ?_; refine yq52 ?_; refine yq47 ?_; refine yq0 ?_; refine T.pv (PV.convB rfl zO) (Wanted.guard rfl rfl zA) rfl rfl ?_; refine yq103 ?_; refine yq87 ?_
      refine yq116 ?_; refine yq101 ?_; refine sm ?_; refine yq5 ?_; refine yq5 ?_; refine yq5 ?_; refine yq5 ?_; refine yq5 ?_; refine yq5 ?_; refine yq90 ?_; refine J9 ?_
      exact T.nextP (j + 1) ⟨by omega, by omega⟩ zO zq8 zq23 rfl
  · have hd0 : decide ((0 : Int) < (m : Int)) = false := decide_eq_false zO
    have hjq : j < q := by
      rcases Nat.lt_or_eq_of_le hj2 with h | h
      · exact h
      · subst h; rw [← hm] at hbeg; omega
    refine J7 ?_; refine yq43 ?_; refine J2 ?_; refine yq9 ?_; refine J10 ?_; refine yq43 ?_; refine J8 ?_; refine yq5 ?_; refine yq5 ?_; refine yq5 ?_; refine yq5 ?_; refine yq5 ?_; refine yq5 ?_; refine yq5 ?_
    refine yq5 ?_; refine yq90 ?_; refine J23 ?_
    exact T.nextP (j + 1) ⟨by omega, by omega⟩ zO zq8 zq23 rfl

end Go.Proofs.YtecogbhbkccblaaGreatDoor
