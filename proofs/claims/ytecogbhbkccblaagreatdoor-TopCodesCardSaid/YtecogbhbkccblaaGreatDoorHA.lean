/- postings: Encode.
   postings: Decode. -/
import Derived.Test.YtecogbhbkccblaaGreatDoorH9
set_option maxRecDepth 4000
set_option maxHeartbeats 40000000
set_option linter.all false
namespace Go.Proofs.YtecogbhbkccblaaGreatDoor
open Go.RowKit


theorem pencode_fn (ps : List Nat) (pb : Nat) (H : Hp) (h : PoOk H pb ps) (hp : PsOk ps) : Fn Tryz.prog 15 #[.pointer (some ⟨pb, 0, none⟩)] H (fun u H' => NSl H' .u8 u (sealC (encPo ps))) := by
  obtain ⟨gvv, svv, hH, hgv, hsv⟩ := h
  have hlen := hp.len
  have hgl := hp.gaps
  have hsn : skipN ps = (ps.length + 15) / 16 := rfl
  have hsll := skipP_len ps
  have hel := encPo_len hp
  obtain ⟨ag, cg, rfl⟩ := hgv.len
  obtain ⟨asv, csv, rfl⟩ := hsv.len
  obtain ⟨G, hG⟩ : ∃ G, G = gapsP 0 ps := ⟨_, rfl⟩
  rw [← hG] at hgl hgv hH
  have hp1 := putV_len 2 (show ps.length < 128 ^ 3 by omega)
  have hp2 := putV_len 2 (show G.length < 128 ^ 3 by omega)
  have hpk := packB_len G
  refine Fn.of_T (vs := [.pointer (some ⟨pb, 0, none⟩)]) Tryz.func15 rfl rfl fun w => ?_; refine J10 ?_; refine yq42 ?_; (refine T.callW Wanted.none rfl rfl (putUvarint_fn (.slice none 0 0) [] [] ps.length _ (NRow.nil _ _) zO zD) Pick.nil ?_; rintro v10 H10 le10 _ ⟨hH10, he10⟩; have hH10 := hH10.symm; subst hH10; rw [List.nil_append] at he10; obtain ⟨ad10, cap10, rfl⟩ := he10.val); refine J9 ?_; refine yq42 ?_; (refine T.callW Wanted.none rfl rfl (putUvarint_fn _ le10 _ G.length _ he10 zO zO) zq1 ?_; rintro v17 H17 le17 _ ⟨hH17, he17⟩; have hH17 := hH17.symm; subst hH17; obtain ⟨ad17, cap17, rfl⟩ := he17.val); refine J9 ?_; (refine T.appendP (lv := le17) Wanted.none rfl rfl rfl he17 hgv.src (nV_one _ _) (by rw [List.length_append]; omega) zq1 ?_; intro v23 lv23 hv23 _; have hv23 := NRow.app hv23; obtain ⟨ad23, cap23, rfl⟩ := hv23.val); refine J8 ?_
  obtain ⟨R0, hR0⟩ : ∃ R, R = putV ps.length ++ putV G.length ++ packB G := ⟨_, rfl⟩
  have hRl : R0.length ≤ 300 := by rw [hR0, List.length_append, List.length_append]; omega
  rw [← hR0] at hv23 ⊢
  refine T.loopK [(0, Value.pointer (some { block := pb, off := 0 }))] zq8 (γ := PlG) (fun g => g.k ≤ skipN ps - 1 ∧ NRow 5 .u8 g.v g.lv (R0 ++ skB ps g.k)) (fun g => [(4, .int .i64 ((g.k + 1 : Nat) : Int)), (3, g.v)]) (fun g => g.lv) (fun _ => H) (fun g => skipN ps - g.k) ⟨0, _, lv23⟩ ⟨Nat.zero_le _, by dsimp only; rw [show skB ps 0 = [] from rfl, List.append_nil]; exact hv23⟩ zq8 zq23 rfl ?_
  rintro ⟨m, v, lv⟩ ⟨hm, hv⟩
  dsimp only at hm hv ⊢
  obtain ⟨R, hR⟩ : ∃ R, R = R0 ++ skB ps m := ⟨_, rfl⟩
  have hskl := skB_len ps hp m
  have hRl2 : R.length ≤ 300 + 6 * m := by rw [hR, List.length_append]; omega
  rw [← hR] at hv
  obtain ⟨av, cv, rfl⟩ := hv.val
  by_cases h : m + 1 < skipN ps
  · obtain ⟨a, ha⟩ : ∃ a, a = ps[16 * (m + 1)]?.getD 0 := ⟨_, rfl⟩
    obtain ⟨a0, ha0⟩ : ∃ a, a = ps[16 * m]?.getD 0 := ⟨_, rfl⟩
    obtain ⟨c, hc⟩ : ∃ a, a = bitP ps (16 * (m + 1)) := ⟨_, rfl⟩
    obtain ⟨c0, hc0⟩ : ∃ a, a = bitP ps (16 * m) := ⟨_, rfl⟩
    have hs1 := skipP_get (ps := ps) (k := m + 1) h
    have hs0 := skipP_get (ps := ps) (k := m) zO
    rw [← ha, ← hc] at hs1
    rw [← ha0, ← hc0] at hs0
    have hlt1 : 16 * (m + 1) < ps.length := by omega
    have hlt0 : 16 * m < ps.length := by omega
    have ha' : a = ps[16 * (m + 1)] := by rw [ha, List.getElem?_eq_getElem hlt1]; rfl
    have ha0' : a0 = ps[16 * m] := by rw [ha0, List.getElem?_eq_getElem hlt0]; rfl
    have haa : a0 < a := by rw [ha', ha0']; exact List.pairwise_iff_getElem.1 hp.up _ _ _ _ zO
    have ha127 : a < 127 := by rw [ha']; exact hp.lt _ (List.getElem_mem _)
    have hcc : c0 ≤ c := by rw [hc, hc0]; exact bitP_mono ps zO
    have hcl : c ≤ 11 * 127 := by rw [hc]; exact (hp.take _).gaps
    have hsucc := skB_succ ps m
    rw [← ha, ← ha0, ← hc, ← hc0] at hsucc
    obtain ⟨b, off, rfl, hsub1⟩ := RowL.at lenSk hsv hs1
    have hsub0 := RowL.atP lenSk hsv hs0
    have hsub0 : SubC H b (off + (((m + 1 : Nat) : Int) - 1).toNat * 2) (enSk (a0, c0)) := by
      rw [show (((m + 1 : Nat) : Int) - 1).toNat = m by omega]
      exact hsub0
    have hp3 := putV_len 2 (show a - a0 < 128 ^ 3 by omega)
    have hp4 := putV_len 2 (show c - c0 < 128 ^ 3 by omega)
    have hu1 : FnW Tryz.prog 36 #[.slice av R.length cv, .int .u64 ((a : Int) - (a0 : Int))] H lv (fun u H' l' => H' = H ∧ NRow 5 .u8 u l' (R ++ putV (a - a0))) := by
      rw [show (a : Int) - (a0 : Int) = ((a - a0 : Nat) : Int) by omega]
      exact putUvarint_fn _ lv _ (a - a0) H hv zO zO
    have hu2 := fun v lv (hv : NRow 5 .u8 v lv (R ++ putV (a - a0))) => putUvarint_fn v lv _ (c - c0) H hv zO (by rw [List.length_append]; omega)
    rw [show ((c - c0 : Nat) : Int) = (c : Int) - (c0 : Int) by omega] at hu2
    have hd : decide (((m + 1 : Nat) : Int) < ((skipP ps).length : Int)) = true := decide_eq_true zO
    refine J11 ?_; refine yq9 ?_; refine J3 ?_
    (repeat refine sq ?_)
    refine T.regionO [] zK ?_; refine yq3 ?_; refine TO.take 2 rfl zK zK zK (PV.nilCheck rfl) Wanted.none rfl rfl ?_; refine yq96 ?_; refine yq99 ?_; refine TO.take 7 rfl zK zK zK (PV.fieldAddr rfl) Wanted.none rfl rfl ?_; refine TO.take 8 rfl zK zK zK (PV.loadSub rfl zA rfl) Wanted.none rfl rfl ?_; refine TO.take 9 rfl zK zK zK (PV.move rfl) Wanted.none rfl rfl ?_; refine TO.take 10 rfl zK zK zK (PV.nilCheck rfl) Wanted.none rfl rfl ?_; refine TO.take 11 rfl zK zK zK (PV.fieldAddr rfl) Wanted.none rfl rfl ?_; refine TO.take 12 rfl zK zK zK (PV.load1 rfl zq0 rfl) Wanted.none rfl rfl ?_; refine TO.take 13 rfl zK zK zK (PV.move rfl) Wanted.none rfl rfl ?_; refine TO.take 14 rfl zK zK zK (PV.sub rfl rfl zO) Wanted.none rfl rfl ?_; refine TO.take 15 rfl zK zK zK (PV.indexAddr rfl rfl zO) Wanted.none rfl rfl ?_; refine TO.take 16 rfl zK zK zK (PV.fieldAddr rfl) Wanted.none rfl rfl ?_; refine TO.take 17 rfl zK zK zK (PV.loadSub rfl zA rfl) Wanted.none rfl rfl ?_; refine TO.take 18 rfl zK zK zK (PV.sub rfl rfl zO) Wanted.none rfl rfl ?_; refine TO.take 19 rfl zK zK zK (PV.convB rfl zO) Wanted.none rfl rfl ?_; refine TO.step 20 rfl zK zq4 zq19 ?_; (refine T.callW Wanted.none rfl rfl hu1 zq1 ?_; rintro v53 H53 le53 _ ⟨hH53, he53⟩; have hH53 := hH53.symm; subst hH53; obtain ⟨ad53, cap53, rfl⟩ := he53.val); refine yq30 ?_; refine TO.take 21 rfl zK zK zK (PV.assign rfl) Wanted.none rfl rfl ?_; refine yq37 ?_
    (repeat refine sq ?_)
    refine T.regionO [] zK ?_; refine yq3 ?_; refine TO.take 2 rfl zK zK zK (PV.nilCheck rfl) Wanted.none rfl rfl ?_; refine yq96 ?_; refine yq99 ?_; refine TO.take 7 rfl zK zK zK (PV.fieldAddr rfl) Wanted.none rfl rfl ?_; refine TO.take 8 rfl zK zK zK (PV.loadSub rfl zA rfl) Wanted.none rfl rfl ?_; refine TO.take 9 rfl zK zK zK (PV.move rfl) Wanted.none rfl rfl ?_; refine TO.take 10 rfl zK zK zK (PV.nilCheck rfl) Wanted.none rfl rfl ?_; refine TO.take 11 rfl zK zK zK (PV.fieldAddr rfl) Wanted.none rfl rfl ?_; refine TO.take 12 rfl zK zK zK (PV.load1 rfl zq0 rfl) Wanted.none rfl rfl ?_; refine TO.take 13 rfl zK zK zK (PV.move rfl) Wanted.none rfl rfl ?_; refine TO.take 14 rfl zK zK zK (PV.sub rfl rfl zO) Wanted.none rfl rfl ?_; refine TO.take 15 rfl zK zK zK (PV.indexAddr rfl rfl zO) Wanted.none rfl rfl ?_; refine TO.take 16 rfl zK zK zK (PV.fieldAddr rfl) Wanted.none rfl rfl ?_; refine TO.take 17 rfl zK zK zK (PV.loadSub rfl zA rfl) Wanted.none rfl rfl ?_; refine TO.take 18 rfl zK zK zK (PV.sub rfl rfl zO) Wanted.none rfl rfl ?_; refine TO.take 19 rfl zK zK zK (PV.convB rfl zO) Wanted.none rfl rfl ?_; refine TO.step 20 rfl zK zq4 zq19 ?_; (refine T.callW Wanted.none rfl rfl (hu2 _ _ he53) zq1 ?_; rintro v74 H74 le74 _ ⟨hH74, he74⟩; have hH74 := hH74.symm; subst hH74; obtain ⟨ad74, cap74, rfl⟩ := he74.val); refine yq30 ?_; refine TO.take 21 rfl zK zK zK (PV.assign rfl) Wanted.none rfl rfl ?_; refine yq37 ?_; refine J6 ?_
    have hst : R0 ++ skB ps (m + 1) = R ++ putV (a - a0) ++ putV (c - c0) := by
      rw [hsucc, ← List.append_assoc, ← hR, List.append_assoc]
    exact T.nextP ⟨m + 1, .slice ad74 (R ++ putV (a - a0) ++ putV (c - c0)).length cap74, le74⟩ ⟨by dsimp only; omega, by dsimp only; rw [hst]; exact he74⟩ zE zq8 zq23 rfl
  · have hd : decide (((m + 1 : Nat) : Int) < ((skipP ps).length : Int)) = false := decide_eq_false zO
    have hRe : R = encPo ps := by
      rw [hR, hR0, show m = skipN ps - 1 by omega, hG]
      unfold encPo
      simp only [List.append_assoc]
    rw [hRe] at hv ⊢
    refine J11 ?_; refine yq6 ?_; refine T.exit rfl ?_; refine T.freezeP hv zq1 ?_
    intro H2 hle2 hs2
    refine J3 ?_; (refine T.call Wanted.none rfl rfl (seal_fn _ _ _ hs2 encPo_lt zO) ?_; rintro v76 H3 hle3 hv76; obtain ⟨ad76, cap76, rfl⟩ := hv76.len); refine J2 ?_
    exact T.retF (Lv.fin (RV.tmp rfl rfl) hv76)

end Go.Proofs.YtecogbhbkccblaaGreatDoor
namespace Go.Proofs.YtecogbhbkccblaaGreatDoor
open Go.RowKit


structure PpG where
  i : Nat
  z : Int
  v : Value
  lv : List (Nat × Obj)
theorem positions_fn (ps rest : List Nat) (bv : Value) (G : List Bool) (H : Hp) (hG : G = gapsP 0 ps) (hb : NSl H .u8 bv (packB G ++ rest)) (hr : rest.length ≤ 10000000) (hp : PsOk ps) : Fn Tryz.prog 45 #[bv, .int .i64 (G.length : Int), .int .i64 (ps.length : Int)] H (fun u H' => ∃ v, u = .tuple #[v, .bool true] ∧ NSl H' .i64 v ps) := by
  have hlen := hp.len
  have hgl := hp.gaps
  rw [← hG] at hgl
  have hrd := newReader_fn G rest bv H hb zO hr
  obtain ⟨ad, cap, rfl⟩ := hb.len
  refine Fn.of_T (vs := [.slice ad (packB G ++ rest).length cap, .int .i64 (G.length : Int), .int .i64 (ps.length : Int)]) Tryz.func45 rfl rfl fun w => ?_; refine J9 ?_; (refine T.callW Wanted.none rfl rfl hrd Pick.nil ?_; rintro _ H1 _ hle1 ⟨_, rb, rv, rfl, rfl, hrv⟩); refine J29 ?_; refine T.loopK [(22, Value.int IntKind.i64 (↑ps.length : Int)), (8, Value.pointer (some { block := rb, off := 0 }))] zq8 (γ := PpG) (fun g => g.i ≤ ps.length ∧ g.z = (lastB 0 (ps.take g.i) : Int) - 1 ∧ NRow 3 .i64 g.v g.lv (ps.take g.i)) (fun g => [(23, .int .i64 (g.i : Int)), (10, g.v), (11, .int .i64 g.z)]) (fun g => RdB rb rv G.length (bitP ps g.i) :: g.lv) (fun _ => H1) (fun g => ps.length - g.i) ⟨0, -1, .slice none 0 0, []⟩ ⟨Nat.zero_le _, rfl, NRow.nil _ _⟩ zq8 zq23 rfl ?_
  rintro ⟨i, z, v, lv⟩ ⟨hi, hz, hv⟩
  dsimp only at hi hz hv ⊢
  obtain ⟨av, cv, rfl⟩ := hv.val
  have htl : (ps.take i).length ≤ 127 := by rw [List.length_take]; omega
  by_cases h : i < ps.length
  · obtain ⟨p, hpe⟩ : ∃ p, p = ps[i] := ⟨_, rfl⟩
    have hx : ps[i]? = some p := by rw [hpe]; exact List.getElem?_eq_getElem h
    have hp1 := hp.lt p (List.mem_of_getElem? hx)
    have hla := hp.last h
    obtain ⟨post, hpost⟩ := gaps_at h
    rw [← hG] at hpost
    have hdl := rdelta_fn rb G (gapsP 0 (ps.take i)) post rv (ps[i] + 1 - lastB 0 (ps.take i)) H1 hrv zO hpost zO zO
    rw [← take_gaps h] at hdl
    have htb := lastB_take h
    rw [← hpe] at hla hdl htb
    obtain ⟨q, hq⟩ : ∃ q, q = lastB 0 (ps.take i) := ⟨_, rfl⟩
    rw [← hq] at hz hla hdl
    obtain ⟨x, hxe⟩ : ∃ x, x = p + 1 - q := ⟨_, rfl⟩
    rw [← hxe] at hdl
    have hd : decide ((i : Int) < (ps.length : Int)) = true := decide_eq_true zO
    have hd2 : decide ((2147483648 : Int) < (x : Int)) = false := decide_eq_false zO
    have hst : ps.take (i + 1) = ps.take i ++ [p] := by rw [List.take_add_one, hx]; rfl
    refine yq77 ?_; refine T.callWV Wanted.none rfl rfl hdl zq1 ?_; refine J16 ?_; refine yq6 ?_; refine J12 ?_; (refine T.buildSlice Wanted.none rfl rfl zq11 zX zX ?_; intro b42); (refine T.appendP (lv := lv) Wanted.none rfl rfl rfl hv (Src.cells (m := 1) (ys := [.int .i64 (z + (x : Int))]) (.own zq2) rfl rfl) (by intro u hu; rw [List.mem_singleton.1 hu]; rfl) zO zq1 ?_; intro v43 lv43 hv43 _; rw [show z + (x : Int) = (p : Int) by omega] at hv43; have hv43 := NRow.snoc hv43; obtain ⟨ad43, cap43, rfl⟩ := hv43.val); refine sa ?_
    refine J6 ?_
    exact T.nextP ⟨i + 1, z + (x : Int), .slice ad43 (ps.take i ++ [p]).length cap43, lv43⟩ ⟨by dsimp only; omega, by dsimp only; rw [htb]; omega, by dsimp only; rw [hst]; exact hv43⟩ zE zq8 zq23 rfl
  · have hd : decide ((i : Int) < (ps.length : Int)) = false := decide_eq_false zO
    obtain rfl : i = ps.length := by omega
    rw [List.take_length] at hv ⊢
    refine yq44 ?_; refine J7 ?_; refine T.freezeP hv zq1 ?_
    intro H2 hle2 hs2
    exact T.retF (Lv.fin (RV.tmp2 rfl rfl rfl) ⟨_, rfl, hs2⟩)
theorem pdecode_fn (ps : List Nat) (av : Value) (H : Hp) (ha : NSl H .u8 av (sealC (encPo ps))) (hp : PsOk ps) : Fn Tryz.prog 14 #[av] H (fun u H' => ∃ pb, u = .tuple #[.pointer (some ⟨pb, 0, none⟩), .int .i64 0] ∧ PoOk H' pb ps) := by
  have hlen := hp.len
  have hgl := hp.gaps
  have hel := encPo_len hp
  have hun := unseal_fn (encPo ps) av H ha encPo_lt zO
  have hslt := sealC_lt (encPo_lt (ps := ps))
  obtain ⟨ad, cap, rfl⟩ := ha.len
  obtain ⟨G, hG⟩ : ∃ G, G = gapsP 0 ps := ⟨_, rfl⟩
  obtain ⟨S, hS⟩ : ∃ S, S = skB ps (skipN ps - 1) := ⟨_, rfl⟩
  have hE : encPo ps = putV ps.length ++ (putV G.length ++ (packB G ++ S)) := by rw [hG, hS]; rfl
  rw [← hG] at hgl
  have hEl := congrArg List.length hE
  simp only [List.length_append] at hEl
  have hl3 : (packB G ++ S).length = (packB G).length + S.length := List.length_append
  have hl2 : (putV G.length ++ (packB G ++ S)).length = (putV G.length).length + ((packB G).length + S.length) := by rw [List.length_append, hl3]
  have hl1 : (putV ps.length ++ (putV G.length ++ (packB G ++ S))).length = (putV ps.length).length + ((putV G.length).length + ((packB G).length + S.length)) := by rw [List.length_append, hl2]
  have hpkl := packB_len G
  have hu1 := fun v H hv => uvarint_fn ps.length (putV G.length ++ (packB G ++ S)) v H hv zO zO
  have hu2 := fun v H hv => uvarint_fn G.length (packB G ++ S) v H hv zO zO
  have hps := fun v H hv => positions_fn ps S v G H hG hv zO hp
  have hsuf1 : ∀ {H : Hp} {ad : Option Addr} {cap : Nat}, NSl H .u8 (.slice ad (putV ps.length ++ (putV G.length ++ (packB G ++ S))).length cap) (putV ps.length ++ (putV G.length ++ (packB G ++ S))) → NSl H .u8 (slV 1 ad (putV ps.length).length (putV ps.length ++ (putV G.length ++ (packB G ++ S))).length cap) (putV G.length ++ (packB G ++ S)) := fun h => by
    have := NSl.suf h (lo := (putV ps.length).length) zO
    rwa [List.drop_left] at this
  have hsuf2 : ∀ {H : Hp} {ad : Option Addr} {cap : Nat}, NSl H .u8 (.slice ad (putV G.length ++ (packB G ++ S)).length cap) (putV G.length ++ (packB G ++ S)) → NSl H .u8 (slV 1 ad (putV G.length).length (putV G.length ++ (packB G ++ S)).length cap) (packB G ++ S) := fun h => by
    have := NSl.suf h (lo := (putV G.length).length) zO
    rwa [List.drop_left] at this
  have hd1 : decide ((4096 : Int) < (ps.length : Int)) = false := decide_eq_false zO
  refine Fn.of_T (vs := [.slice ad (sealC (encPo ps)).length cap]) Tryz.func14 rfl rfl fun w => ?_; refine J8 ?_; (refine T.call Wanted.none rfl rfl hun ?_; rintro _ H1 hle1 ⟨v1, rfl, hv1⟩; rw [hE] at hv1; obtain ⟨a1, c1, rfl⟩ := hv1.len; have hcap1 := SlR.cap hv1); refine J17 ?_; (refine T.call Wanted.none rfl rfl (hu1 _ _ hv1) ?_; rintro _ H2 hle2 rfl); refine J18 ?_
  refine yq6 ?_; refine J5 ?_; refine sv (PV.sliceL rfl rfl zO) ?_; refine J2 ?_
  have hv2 := hsuf1 (hv1.mono hle2)
  obtain ⟨a2, c2, he2⟩ := hv2.len
  rw [Int.toNat_natCast, he2]
  rw [he2] at hv2
  have hcap2 := SlR.cap hv2
  refine J3 ?_; (refine T.call Wanted.none rfl rfl (hu2 _ _ hv2) ?_; rintro _ H3 hle3 rfl); refine J18 ?_; refine gv (PV.convB rfl zO) ?_; refine J5 ?_
  have hv3 := hsuf2 (hv2.mono hle3)
  obtain ⟨a3, c3, he3⟩ := hv3.len
  have hps3 := hps _ _ hv3
  refine J4 ?_; refine sv (PV.sliceL rfl rfl zO) ?_; refine J4 ?_; (refine T.call Wanted.none rfl rfl hps3 ?_; rintro _ H4 hle4 ⟨v4, rfl, hv4⟩; obtain ⟨a4, c4, rfl⟩ := hv4.len); refine J17 ?_; (refine T.call Wanted.none rfl rfl (pbuild_fn ps _ H4 hv4 hp) ?_; rintro _ H5 hle5 ⟨pb, rfl, hpo⟩); refine J13 ?_; (refine T.call (Wanted.guard rfl rfl rfl) rfl rfl (pencode_fn ps pb H5 hpo hp) ?_; rintro _ H6 hle6 hv6; obtain ⟨a6, c6, rfl⟩ := hv6.len); refine gm ?_; (refine T.call (Wanted.guard rfl rfl rfl) rfl rfl (bytesEqual_fn (sealC (encPo ps)) _ _ H6 hv6 (ha.mono (((((hle1.trans hle2).trans hle3).trans hle4).trans hle5).trans hle6)) hslt) ?_; rintro _ H7 hle7 rfl)
  refine J11 ?_
  exact T.retF (Lv.fin (RV.tmp2 rfl rfl rfl) ⟨pb, rfl, (hpo.mono hle6).mono hle7⟩)

end Go.Proofs.YtecogbhbkccblaaGreatDoor
