/- postings: Build, Len.
   postings: a part of a list; all places.
   postings: all places; Encode. -/
import Derived.Test.YtecogbhbkccblaaGreatDoorH8
set_option maxRecDepth 4000
set_option maxHeartbeats 40000000
set_option linter.all false
namespace Go.Proofs.YtecogbhbkccblaaGreatDoor
open Go.RowKit


abbrev enSk (p : Nat × Nat) : List Value := [.int .i64 (p.1 : Int), .int .i64 (p.2 : Int)]
theorem lenSk : ∀ x : Nat × Nat, (enSk x).length = 2 := fun _ => rfl
theorem one_enSk (x : Nat × Nat) : ∀ u ∈ enSk x, u.oneCell' = true := by
  intro u hu
  simp only [enSk, List.mem_cons, List.not_mem_nil, or_false] at hu
  rcases hu with rfl | rfl <;> rfl
/-- places that can be written -/
structure PsOk (ps : List Nat) : Prop where
  lt : ∀ p ∈ ps, p < 127
  len : ps.length ≤ 127
  up : ps.Pairwise (· < ·)
theorem PsOk.last {ps : List Nat} (h : PsOk ps) {i : Nat} (hi : i < ps.length) : lastB 0 (ps.take i) ≤ ps[i] := by
  cases i with
  | zero => rw [List.take_zero]; exact Nat.zero_le _
  | succ j =>
    rw [lastB_take (show j < ps.length by omega)]
    exact List.pairwise_iff_getElem.1 h.up j (j + 1) zO hi zO
theorem PsOk.gaps {ps : List Nat} (h : PsOk ps) : (gapsP 0 ps).length ≤ 11 * 127 := by
  have h1 := gaps_short 0 ps h.lt
  have h2 := h.len
  omega
theorem PsOk.take {ps : List Nat} (h : PsOk ps) (i : Nat) : PsOk (ps.take i) :=
  ⟨fun p hp => h.lt p (List.mem_of_mem_take hp), by have := h.len; rw [List.length_take]; omega, h.up.sublist (List.take_sublist _ _)⟩
/-- a list of places, frozen -/
def PoOk (H : Hp) (pb : Nat) (ps : List Nat) : Prop := ∃ gvv svv, H pb = some (.cells #[.int .i64 (ps.length : Int), .int .i64 ((gapsP 0 ps).length : Int), gvv, svv] 85 (0, 0)) ∧ NSl H .u8 gvv (packB (gapsP 0 ps)) ∧ RowL enSk 2 H svv (skipP ps)
theorem PoOk.mono {H H' : Hp} {pb : Nat} {ps : List Nat} (h : PoOk H pb ps) (hl : H.le H') : PoOk H' pb ps := by
  obtain ⟨gvv, svv, h1, h2, h3⟩ := h
  exact ⟨gvv, svv, hl _ _ h1, h2.mono hl, h3.mono hl⟩
def skK (ps : List Nat) (i : Nat) : List (Nat × Nat) := (List.range ((i + 15) / 16)).map fun k => (ps[16 * k]?.getD 0, bitP ps (16 * k))
theorem skK_all (ps : List Nat) : skK ps ps.length = skipP ps := rfl
theorem skK_zero (ps : List Nat) : skK ps 0 = [] := rfl
theorem skK_yes {ps : List Nat} {i : Nat} (h : i % 16 = 0) (hi : i < ps.length) : skK ps (i + 1) = skK ps i ++ [(ps[i], (gapsP 0 (ps.take i)).length)] := by
  unfold skK
  rw [show (i + 1 + 15) / 16 = (i + 15) / 16 + 1 by omega, List.range_succ, List.map_append, List.map_singleton, show 16 * ((i + 15) / 16) = i by omega, List.getElem?_eq_getElem hi]
  rfl
theorem skK_no {ps : List Nat} {i : Nat} (h : ¬ i % 16 = 0) : skK ps (i + 1) = skK ps i := by
  unfold skK
  rw [show (i + 1 + 15) / 16 = (i + 15) / 16 by omega]
theorem skK_len (ps : List Nat) (i : Nat) : (skK ps i).length = (i + 15) / 16 := by unfold skK; simp
structure PbG where
  i : Nat
  z : Int
  svv : Value
  ls : List (Nat × Obj)
  wl : List (Nat × Obj)
theorem pbuild_fn (ps : List Nat) (av : Value) (H : Hp) (ha : NSl H .i64 av ps) (hp : PsOk ps) : Fn Tryz.prog 13 #[av] H (fun u H' => ∃ pb, u = .tuple #[.pointer (some ⟨pb, 0, none⟩), .int .i64 0] ∧ PoOk H' pb ps) := by
  have hlen := hp.len
  obtain ⟨ad, cap, rfl⟩ := ha.len
  have hd0 : decide ((4096 : Int) < (ps.length : Int)) = false := decide_eq_false zO
  refine Fn.of_T (vs := [.slice ad ps.length cap]) Tryz.func13 rfl rfl fun w => ?_; refine J12 ?_; refine yq6 ?_; refine J5 ?_; refine yq39 ?_; (refine T.box Wanted.none rfl rfl zq15 ?_; intro b15); refine J4 ?_; (refine T.callW Wanted.none rfl rfl (newWriter_fn H) Pick.nil ?_; rintro _ H16 wl _ ⟨hH16, wb, rfl, hwr⟩; have hH16 := hH16.symm; subst hH16); refine J14 ?_; refine T.loopK [(18, Value.int IntKind.i64 (↑ps.length : Int)), (17, Value.slice ad ps.length cap), (5, Value.pointer (some { block := wb, off := 0 })), (4, Value.pointer (some { block := b15, off := 0 }))] zq8 (γ := PbG) (fun g => g.i ≤ ps.length ∧ g.z = (lastB 0 (ps.take g.i) : Int) - 1 ∧ RowV 89 enSk 2 g.svv g.ls (skK ps g.i) ∧ WrOk wb g.wl (gapsP 0 (ps.take g.i))) (fun g => [(19, .int .i64 (g.i : Int)), (6, .int .i64 g.z)]) (fun g => (b15, .cells #[.int .i64 (ps.length : Int), .int .i64 0, .slice none 0 0, g.svv] 85 (0, 0)) :: (g.ls ++ g.wl)) (fun _ => H) (fun g => ps.length - g.i) ⟨0, -1, .slice none 0 0, [], wl⟩ ⟨Nat.zero_le _, rfl, by dsimp only; rw [skK_zero]; exact Vec.nil _ _, hwr⟩ zq8 zq23 rfl ?_
  rintro ⟨i, z, svv, ls, wl⟩ ⟨hi, hz, hsv, hwr⟩
  dsimp only at hi hz hsv hwr ⊢
  obtain ⟨asv, csv, rfl⟩ := hsv.val
  have hskl := skK_len ps i
  have hgl := (hp.take i).gaps
  by_cases h : i < ps.length
  · obtain ⟨p, hpe⟩ : ∃ p, p = ps[i] := ⟨_, rfl⟩
    have hx : ps[i]? = some p := by rw [hpe]; exact List.getElem?_eq_getElem h
    have hp1 := hp.lt p (List.mem_of_getElem? hx)
    obtain ⟨b, off, rfl, hsub⟩ := NSl.at ha hx
    have hla := hp.last h
    rw [← hpe] at hla
    have htg := take_gaps h
    have htl := lastB_take h
    rw [← hpe] at htg htl
    obtain ⟨q, hq⟩ : ∃ q, q = lastB 0 (ps.take i) := ⟨_, rfl⟩
    rw [← hq] at hz hla htg
    have hdl := delta_fn wb wl (gapsP 0 (ps.take i)) (p + 1 - q) H hwr zO zO zO
    rw [← htg] at hdl
    have hwl := wlen_fn wb wl _ H hwr
    have hdl : FnW Tryz.prog 42 #[.pointer (some ⟨wb, 0, none⟩), .int .u64 ((p : Int) - z)] H wl (fun u H' l' => u = .int .i64 0 ∧ H' = H ∧ WrOk wb l' (gapsP 0 (ps.take (i + 1)))) := by
      rw [show (p : Int) - z = ((p + 1 - q : Nat) : Int) by omega]
      exact hdl
    have hd : decide ((i : Int) < (ps.length : Int)) = true := decide_eq_true zO
    have hd1 : decide ((p : Int) < 0) = false := decide_eq_false zO
    have hd2 : decide ((2147483647 : Int) < (p : Int)) = false := decide_eq_false zO
    have hd3 : decide ((p : Int) ≤ z) = false := decide_eq_false zO
    by_cases h16 : i % 16 = 0
    · have hd4 : decide ((i : Int).tmod 16 = 0) = true := decide_eq_true (by show ((i % 16 : Nat) : Int) = 0; omega)
      have hsy := skK_yes h16 h
      rw [← hpe] at hsy
      refine yq98 ?_; refine J15 ?_; refine yq6 ?_; refine yq66 ?_; refine J7 ?_
      refine J2 ?_; refine yq9 ?_
      (repeat refine sq ?_)
      refine T.regionS [(b15, .cells #[.int .i64 (ps.length : Int), .int .i64 0, .slice none 0 0, .slice asv (skK ps i).length csv] 85 (0, 0))] 13 zK ?_; refine yq7 ?_; refine yq34 ?_; refine yq104 ?_; refine yq15 ?_
      refine yq91 ?_
      refine T.callWV Wanted.none rfl rfl hwl zq1 ?_; refine yq4 ?_; refine TS.take 8 rfl zK zK zK zK (PV.build rfl zq12) Wanted.none rfl rfl ?_
      refine yq68 ?_
      (refine T.buildSlice Wanted.none rfl rfl zq11 zX zX ?_; intro b47); refine yq4 ?_
      refine TS.ways [10] zK rfl zq20 ⟨⟨_, rfl, ?_⟩, trivial⟩
      (refine T.appendP (lv := ls) Wanted.none rfl rfl rfl hsv (Src.cells (m := 1) (ys := enSk (p, (gapsP 0 (ps.take i)).length)) (.own zq2) rfl rfl) (one_enSk _) zO zq1 ?_; intro v48 lv48 hv48 _; have hv48 := RowV.snoc (enc := enSk) hv48; obtain ⟨ad48, cap48, rfl⟩ := hv48.val); refine yq4 ?_; refine TS.takeT 11 rfl zK zK zK zK (PV.nilCheck rfl) Wanted.none rfl rfl ?_; refine TS.take 12 rfl zK zK zK zK (PV.fieldAddr rfl) Wanted.none rfl rfl ?_
      refine yq81 ?_
      refine yq75 ?_; refine J6 ?_; refine yq42 ?_; (refine T.callW Wanted.none rfl rfl hdl zq1 ?_; rintro _ H56 wl2 _ ⟨rfl, hH56, hwr2⟩; have hH56 := hH56.symm; subst hH56); refine J10 ?_
      exact T.nextP ⟨i + 1, (p : Int), .slice ad48 (skK ps i ++ [(p, (gapsP 0 (ps.take i)).length)]).length cap48, lv48, wl2⟩ ⟨by dsimp only; omega, by dsimp only; rw [htl]; omega, by dsimp only; rw [hsy]; exact hv48, hwr2⟩ zE zq8 zq23 rfl
    · have hd4 : decide ((i : Int).tmod 16 = 0) = false := decide_eq_false (by show ¬ ((i % 16 : Nat) : Int) = 0; omega)
      have hsn := skK_no (ps := ps) h16
      refine yq98 ?_; refine J15 ?_; refine yq6 ?_; refine yq66 ?_; refine J7 ?_
      refine J2 ?_; refine yq6 ?_; refine J7 ?_; refine yq42 ?_; (refine T.callW Wanted.none rfl rfl hdl zq1 ?_; rintro _ H56 wl2 _ ⟨rfl, hH56, hwr2⟩; have hH56 := hH56.symm; subst hH56); refine J10 ?_
      exact T.nextP ⟨i + 1, (p : Int), .slice asv (skK ps i).length csv, ls, wl2⟩ ⟨by dsimp only; omega, by dsimp only; rw [htl]; omega, by dsimp only; rw [hsn]; exact hsv, hwr2⟩ zE zq8 zq23 rfl
  · have hd : decide ((i : Int) < (ps.length : Int)) = false := decide_eq_false zO
    obtain rfl : i = ps.length := by omega
    rw [List.take_length] at hwr hgl
    rw [skK_all] at hsv ⊢
    refine yq44 ?_; refine J6 ?_; (refine T.callW Wanted.none rfl rfl (wbytes_fn wb wl _ _ hwr zO) zq1 ?_; rintro v62 H62 _ _ ⟨hH62, lu, rfl, hu⟩; have hH62 := hH62.symm; subst hH62; obtain ⟨ad62, cap62, rfl⟩ := hu.val; rw [List.append_assoc lu wl]); refine sm ?_; refine T.callWV Wanted.none rfl rfl (wlen_fn wb wl _ _ hwr) zq1 ?_; refine J2 ?_; refine yq1 ?_; refine J2 ?_; refine yq1 ?_; refine J7 ?_; refine T.freezeP hu zq1 ?_
    intro H2 hle2 hs2
    refine T.freezeP hsv zq1 ?_
    intro H3 hle3 hs3
    refine T.sel (l' := [(b15, .cells #[.int .i64 (ps.length : Int), .int .i64 ((gapsP 0 ps).length : Int), .slice ad62 (packB (gapsP 0 ps)).length cap62, .slice asv (skipP ps).length csv] 85 (0, 0))]) zq23 ?_; refine T.freezeLit ?_
    intro H4 hle4 hH4
    exact T.retF (Lv.fin (RV.tmp2 rfl rfl rfl) ⟨b15, rfl, _, _, hH4, (hs2.mono hle3).mono hle4, hs3.mono hle4⟩)
theorem plen_fn (pb : Nat) (ps : List Nat) (H : Hp) (h : PoOk H pb ps) : Fn Tryz.prog 16 #[.pointer (some ⟨pb, 0, none⟩)] H (fun u _ => u = .int .i64 (ps.length : Int)) := by
  obtain ⟨gvv, svv, hH, _, _⟩ := h
  refine Fn.of_T (vs := [.pointer (some ⟨pb, 0, none⟩)]) Tryz.func16 rfl rfl fun w => ?_; refine J12 ?_
  exact T.retF (Lv.fin (RV.tmp rfl rfl) rfl)

end Go.Proofs.YtecogbhbkccblaaGreatDoor
namespace Go.Proofs.YtecogbhbkccblaaGreatDoor
open Go.RowKit


theorem skipP_get {ps : List Nat} {k : Nat} (h : k < skipN ps) : (skipP ps)[k]? = some (ps[16 * k]?.getD 0, bitP ps (16 * k)) := by
  unfold skipP
  rw [List.getElem?_map, List.getElem?_range h]; rfl
theorem skipP_len (ps : List Nat) : (skipP ps).length = skipN ps := by unfold skipP; simp
theorem Vec.litN {el sz b : Nat} {xs : List Value} (n : Nat) (h : xs.length = n * sz) (hn : n ≤ 1000) : Vec el sz (.slice (some ⟨b, 0, none⟩) n n) [(b, .cells xs.toArray el (0, 0))] n xs :=
  ⟨h, .inr ⟨b, n, xs, rfl, rfl, Nat.le_refl _, by unfold maxLen; omega, h, by rw [← h]; exact List.take_length⟩⟩
structure PartG where
  i : Nat
  j : Nat
  v : Value
  lv : List (Nat × Obj)
theorem part_fn (ps : List Nat) (pb k : Nat) (H : Hp) (h : PoOk H pb ps) (hp : PsOk ps) (hk : k < skipN ps) : Fn Tryz.prog 46 #[.pointer (some ⟨pb, 0, none⟩), .int .i64 (k : Int)] H (fun u H' => NSl H' .i64 u ((ps.drop (16 * k)).take 16)) := by
  obtain ⟨gvv, svv, hH, hgv, hsv⟩ := h
  have hlen := hp.len
  have hgl := hp.gaps
  have hkl : k < (ps.length + 15) / 16 := hk
  have hrd := newReader_fn (gapsP 0 ps) [] gvv H (by rw [List.append_nil]; exact hgv) zO zD
  obtain ⟨s, hs⟩ : ∃ s, s = 16 * k := ⟨_, rfl⟩
  have hsl : s < ps.length := by omega
  obtain ⟨p0, hp0⟩ : ∃ p, p = ps[s] := ⟨_, rfl⟩
  have hg0 : ps[s]? = some p0 := by rw [hp0]; exact List.getElem?_eq_getElem hsl
  have hsk := skipP_get hk
  rw [← hs, hg0, Option.getD_some] at hsk
  have hp01 := hp.lt p0 (List.mem_of_getElem? hg0)
  have hbm := bitP_mono ps (i := s) (j := ps.length) zO
  rw [bitP_all] at hbm
  obtain ⟨ag, cg, rfl⟩ := hgv.len
  obtain ⟨asv, csv, rfl⟩ := hsv.len
  obtain ⟨b, off, rfl, hsub⟩ := RowL.at lenSk hsv hsk
  have hsll := skipP_len ps
  have hsn : skipN ps = (ps.length + 15) / 16 := rfl
  obtain ⟨gb, hgb⟩ : ∃ gb, gb = gapsP 0 ps := ⟨_, rfl⟩
  have hdl : ∀ (i : Nat) (hi : i < ps.length) (rb : Nat) (rv : Value) (H : Hp), NSl H .u8 rv (packB gb) → FnW Tryz.prog 79 #[.pointer (some ⟨rb, 0, none⟩)] H [RdB rb rv gb.length (bitP ps i)] (fun u H' l' => u = .tuple #[.int .u64 ((ps[i] + 1 - lastB 0 (ps.take i) : Nat) : Int), .int .i64 0] ∧ H' = H ∧ l' = [RdB rb rv gb.length (bitP ps (i + 1))]) := by
    intro i hi rb rv H hrv
    obtain ⟨post, hpost⟩ := gaps_at hi
    have hla := hp.last hi
    have hpi := hp.lt ps[i] (List.getElem_mem hi)
    have := rdelta_fn rb gb (gapsP 0 (ps.take i)) post rv (ps[i] + 1 - lastB 0 (ps.take i)) H hrv (by rw [hgb]; omega) (by rw [hgb]; exact hpost) zO zO
    rw [← take_gaps hi] at this
    exact this
  rw [← hgb] at hrd hgl hgv hH hbm
  have hd0 := hdl s hsl
  obtain ⟨x0, hx0⟩ : ∃ x, x = ps[s] + 1 - lastB 0 (ps.take s) := ⟨_, rfl⟩
  rw [← hx0] at hd0
  refine Fn.of_T (vs := [.pointer (some ⟨pb, 0, none⟩), .int .i64 (k : Int)]) Tryz.func46 rfl rfl fun w => ?_; refine J4 ?_
  (repeat refine sq ?_)
  refine T.regionO [] zK ?_; refine yq49 ?_; refine yq35 ?_; refine yq71 ?_; refine TO.take 5 rfl zK zK zK (PV.nilCheck rfl) Wanted.none rfl rfl ?_; refine TO.take 6 rfl zK zK zK (PV.fieldAddr rfl) Wanted.none rfl rfl ?_; refine TO.take 7 rfl zK zK zK (PV.load1 rfl zq0 rfl) Wanted.none rfl rfl ?_; refine TO.step 8 rfl zK zq4 zq19 ?_; (refine T.callW Wanted.none rfl rfl hrd Pick.nil ?_; rintro _ H1 _ hle1 ⟨_, rb, rv, rfl, rfl, hrv⟩; have hH1 := hle1 _ _ hH; have hsub1 := hsub.mono hle1); refine yq30 ?_; refine TO.take 9 rfl zK zK zK (PV.move rfl) Wanted.none rfl rfl ?_; refine TO.take 10 rfl zK zK zK (PV.extract rfl rfl) Wanted.none rfl rfl ?_; refine TO.take 11 rfl zK zK zK (PV.extract rfl rfl) Wanted.none rfl rfl ?_; refine TO.take 12 rfl zK zK zK (PV.assign rfl) Wanted.none rfl rfl ?_; refine TO.take 13 rfl zK zK zK (PV.assign rfl) Wanted.none rfl rfl ?_; refine yq37 ?_; refine J10 ?_; refine sv (PV.loadSub rfl zA rfl) ?_; refine T.callWV Wanted.none rfl rfl (rseek_fn rb rv gb.length 0 (bitP ps s) H1 hbm) zq1 ?_; refine J4 ?_; refine T.callWV Wanted.none rfl rfl (hd0 rb rv H1 hrv) zq1 ?_; refine J9 ?_
  refine sf ?_; refine sv (PV.loadSub rfl zA rfl) ?_; (refine T.buildSlice Wanted.none rfl rfl zq11 zX zX ?_; intro b43); refine J11 ?_
  have hsk1 : (k : Int) * 16 + 1 = ((s + 1 : Nat) : Int) := by omega
  rw [hsk1]
  have hl0 : NRow 3 .i64 (.slice (some ⟨b43, 0, none⟩) 1 1) [(b43, .cells #[.int .i64 (p0 : Int)] 3 (0, 0))] ((ps.drop s).take 1) := by
    rw [List.drop_eq_getElem_cons hsl, ← hp0]
    exact Vec.litN (el := 3) (sz := 1) (b := b43) (xs := nV .i64 [p0]) 1 rfl zD
  refine T.loopK [(5, Value.pointer (some { block := rb, off := 0 })), (0, Value.pointer (some { block := pb, off := 0 })), (1, Value.int IntKind.i64 (↑k : Int))] zq8 (γ := PartG) (fun g => g.i = s + g.j ∧ 1 ≤ g.j ∧ g.j ≤ 16 ∧ g.i ≤ ps.length ∧ NRow 3 .i64 g.v g.lv ((ps.drop s).take g.j)) (fun g => [(8, .int .i64 (g.i : Int)), (7, g.v)]) (fun g => RdB rb rv gb.length (bitP ps g.i) :: g.lv) (fun _ => H1) (fun g => ps.length - g.i) ⟨s + 1, 1, _, _⟩ ⟨rfl, Nat.le_refl _, by dsimp only; omega, hsl, hl0⟩ zq8 zq23 rfl ?_
  rintro ⟨i, j, v, lv⟩ ⟨hij, hj1, hj16, hin, hv⟩
  dsimp only at hij hj1 hj16 hin hv ⊢
  have hLl : ((ps.drop s).take j).length = j := by rw [List.length_take, List.length_drop]; omega
  obtain ⟨L, hL⟩ : ∃ L, L = (ps.drop s).take j := ⟨_, rfl⟩
  rw [← hL] at hv hLl
  by_cases h : i < ps.length ∧ j < 16
  · obtain ⟨hi, hj⟩ := h
    obtain ⟨p, hpe⟩ : ∃ p, p = ps[i] := ⟨_, rfl⟩
    obtain ⟨y, hye⟩ : ∃ y, y = ps[i - 1]'zO := ⟨_, rfl⟩
    have hgi : ps[i]? = some p := by rw [hpe]; exact List.getElem?_eq_getElem hi
    have hgy : ps[i - 1]? = some y := by rw [hye]; exact List.getElem?_eq_getElem _
    have hp1 := hp.lt p (List.mem_of_getElem? hgi)
    have hla := hp.last hi
    have hlb : lastB 0 (ps.take i) = y + 1 := by
      have := lastB_take (ps := ps) (i := i - 1) zO
      rw [show i - 1 + 1 = i by omega] at this
      rw [this, hye]
    rw [hlb, ← hpe] at hla
    have hdi := hdl i hi rb rv H1 hrv
    rw [hlb, ← hpe] at hdi
    obtain ⟨x, hx⟩ : ∃ x, x = p + 1 - (y + 1) := ⟨_, rfl⟩
    rw [← hx] at hdi
    have hyL : L[j - 1]? = some y := by
      rw [hL, List.getElem?_take, if_pos zO, List.getElem?_drop, show s + (j - 1) = i - 1 by omega, hgy]
    have hLs : (ps.drop s).take (j + 1) = L ++ [p] := by
      rw [List.take_add_one, List.getElem?_drop, show s + j = i by omega, hgi, ← hL]; rfl
    obtain ⟨bq, cq, hve⟩ := hv.ptr zO
    subst hve
    have hld : (nV .i64 L)[0 + ((L.length : Int) - 1).toNat * 1]? = some (.int .i64 (y : Int)) := by
      rw [show 0 + ((L.length : Int) - 1).toNat * 1 = j - 1 by omega]
      exact nV_get hyL
    have hd : decide ((i : Int) < min (ps.length : Int) (((k : Int) + 1) * 16)) = true := decide_eq_true zO
    refine J11 ?_; refine sv (PV.min2 rfl rfl) ?_; refine J2 ?_; refine yq110 ?_; refine T.callWV Wanted.none rfl rfl hdi zq1 ?_; refine J13 ?_; refine yq92 ?_; refine J3 ?_; (refine T.buildSlice Wanted.none rfl rfl zq11 zX zX ?_; intro b74); (refine T.appendP (lv := lv) Wanted.none rfl rfl rfl hv (Src.cells (m := 1) (ys := [.int .i64 ((y : Int) + (x : Int))]) (.own zq2) rfl rfl) (by intro u hu; rw [List.mem_singleton.1 hu]; rfl) zO zq1 ?_; intro v75 lv75 hv75 _; rw [show (y : Int) + (x : Int) = (p : Int) by omega] at hv75; have hv75 := NRow.snoc hv75; obtain ⟨ad75, cap75, rfl⟩ := hv75.val); refine J2 ?_
    refine J6 ?_
    exact T.nextP ⟨i + 1, j + 1, .slice ad75 (L ++ [p]).length cap75, lv75⟩ ⟨by dsimp only; omega, by dsimp only; omega, by dsimp only; omega, by dsimp only; omega, by dsimp only; rw [hLs]; exact hv75⟩ zE zq8 zq23 rfl
  · have hd : decide ((i : Int) < min (ps.length : Int) (((k : Int) + 1) * 16)) = false := decide_eq_false zO
    obtain ⟨av, cv, rfl⟩ := hv.val
    refine J11 ?_; refine sv (PV.min2 rfl rfl) ?_; refine J2 ?_; refine yq85 ?_; refine T.freezeP hv zq1 ?_
    intro H2 hle2 hs2
    refine T.retF (Lv.fin (RV.tmp rfl rfl) ?_)
    rw [← hs, show (ps.drop s).take 16 = L by
      rw [hL]
      rcases Nat.lt_or_ge j 16 with h1 | h1
      · rw [List.take_of_length_le (by rw [List.length_drop]; omega), List.take_of_length_le (by rw [List.length_drop]; omega)]
      · rw [show j = 16 by omega]]
    exact hs2

end Go.Proofs.YtecogbhbkccblaaGreatDoor
namespace Go.Proofs.YtecogbhbkccblaaGreatDoor
open Go.RowKit


structure AlG where
  k : Nat
  v : Value
  lv : List (Nat × Obj)
  H : Hp
theorem pall_fn (ps : List Nat) (pb : Nat) (H : Hp) (h : PoOk H pb ps) (hp : PsOk ps) : Fn Tryz.prog 18 #[.pointer (some ⟨pb, 0, none⟩)] H (fun u H' => NSl H' .i64 u ps) := by
  have hpt := fun k hk H1 (hl : H.le H1) => part_fn ps pb k H1 (h.mono hl) hp hk
  obtain ⟨gvv, svv, hH, hgv, hsv⟩ := h
  have hlen := hp.len
  have hsn : skipN ps = (ps.length + 15) / 16 := rfl
  have hsll := skipP_len ps
  obtain ⟨asv, csv, rfl⟩ := hsv.len
  refine Fn.of_T (vs := [.pointer (some ⟨pb, 0, none⟩)]) Tryz.func18 rfl rfl fun w => ?_; refine J19 ?_; refine T.loopK [(9, Value.int IntKind.i64 (↑(skipP ps).length : Int)), (0, Value.pointer (some { block := pb, off := 0 }))] zq8 (γ := AlG) (fun g => g.k ≤ skipN ps ∧ H.le g.H ∧ NRow 3 .i64 g.v g.lv (ps.take (16 * g.k))) (fun g => [(10, .int .i64 (g.k : Int)), (3, g.v)]) (fun g => g.lv) (fun g => g.H) (fun g => skipN ps - g.k) ⟨0, .slice none 0 0, [], H⟩ ⟨Nat.zero_le _, Hp.le.refl _, by dsimp only; rw [Nat.mul_zero, List.take_zero]; exact NRow.nil _ _⟩ zq8 zq23 rfl ?_
  rintro ⟨k, v, lv, H1⟩ ⟨hk, hle, hv⟩
  dsimp only at hk hle hv ⊢
  obtain ⟨av, cv, rfl⟩ := hv.val
  have htl : (ps.take (16 * k)).length ≤ 127 := by rw [List.length_take]; omega
  by_cases h : k < skipN ps
  · have hd : decide ((k : Int) < ((skipP ps).length : Int)) = true := decide_eq_true zO
    have hpk := hpt k h H1 hle
    have hdl : ((ps.drop (16 * k)).take 16).length ≤ 16 := by rw [List.length_take]; omega
    have hst : ps.take (16 * (k + 1)) = ps.take (16 * k) ++ (ps.drop (16 * k)).take 16 := by
      rw [show 16 * (k + 1) = 16 * k + 16 by omega, List.take_add]
    refine yq31 ?_; refine J12 ?_; (refine T.call Wanted.none rfl rfl hpk ?_; rintro v16 H2 hle2 hv16; obtain ⟨ad16, cap16, rfl⟩ := hv16.len); (refine T.appendP (lv := lv) Wanted.none rfl rfl rfl hv hv16.src (nV_one _ _) zO zq1 ?_; intro v17 lv17 hv17 _; have hv17 := NRow.app hv17; obtain ⟨ad17, cap17, rfl⟩ := hv17.val); refine J7 ?_
    exact T.nextP ⟨k + 1, .slice ad17 (ps.take (16 * k) ++ (ps.drop (16 * k)).take 16).length cap17, lv17, H2⟩ ⟨by dsimp only; omega, hle.trans hle2, by dsimp only; rw [hst]; exact hv17⟩ zE zq8 zq23 rfl
  · have hd : decide ((k : Int) < ((skipP ps).length : Int)) = false := decide_eq_false zO
    rw [List.take_of_length_le zO] at hv ⊢
    refine yq44 ?_; refine J6 ?_; refine T.freezeP hv zq1 ?_
    intro H2 hle2 hs2
    exact T.retF (Lv.fin (RV.tmp rfl rfl) hs2)
theorem skB_len (ps : List Nat) (hp : PsOk ps) : ∀ m, (skB ps m).length ≤ 6 * m
  | 0 => by simp [skB]
  | m + 1 => by
    have ih := skB_len ps hp m
    have hg : ∀ i, ps[i]?.getD 0 < 127 := fun i => getD_lt zD hp.lt i
    have h1 := putV_len 2 (show ps[16 * (m + 1)]?.getD 0 - ps[16 * m]?.getD 0 < 128 ^ 3 by have := hg (16 * (m + 1)); omega)
    have h2 := putV_len 2 (show bitP ps (16 * (m + 1)) - bitP ps (16 * m) < 128 ^ 3 by
      have : bitP ps (16 * (m + 1)) ≤ 11 * 127 := (hp.take _).gaps
      omega)
    rw [skB_succ, List.length_append, List.length_append]
    omega
theorem encPo_len {ps : List Nat} (hp : PsOk ps) : (encPo ps).length ≤ 3000 := by
  have hlen := hp.len
  have hgl := hp.gaps
  have h1 := putV_len 2 (show ps.length < 128 ^ 3 by omega)
  have h2 := putV_len 2 (show (gapsP 0 ps).length < 128 ^ 3 by omega)
  have h3 := skB_len ps hp (skipN ps - 1)
  have h4 : skipN ps = (ps.length + 15) / 16 := rfl
  unfold encPo
  rw [List.length_append, List.length_append, List.length_append, packB_len]
  omega
theorem encPo_lt {ps : List Nat} : ∀ c ∈ encPo ps, c < 256 := by
  intro c hc
  unfold encPo at hc
  rcases List.mem_append.1 hc with h | h
  · exact putV_lt _ h
  rcases List.mem_append.1 h with h | h
  · exact putV_lt _ h
  rcases List.mem_append.1 h with h | h
  · exact pack7 c h
  · unfold skB at h
    obtain ⟨d, _, h⟩ := List.mem_flatMap.1 h
    rcases List.mem_append.1 h with h | h
    · exact putV_lt _ h
    · exact putV_lt _ h

end Go.Proofs.YtecogbhbkccblaaGreatDoor
