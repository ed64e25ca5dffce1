/- the statement Codes. -/
import Derived.Test.YtecogbhbkccblaaGreatDoorGN
import Derived.Test.YtecogbhbkccblaaGreatDoorHG
import Derived.Test.YtecogbhbkccblaaGreatDoorHI
set_option maxRecDepth 4000
set_option maxHeartbeats 40000000
set_option linter.all false
namespace Go.Proofs.YtecogbhbkccblaaGreatDoor
open Go.RowKit

theorem plN_take {ns : List Nat} {i n : Nat} (h : ns[i]? = some n) (k : Nat) : plN (ns.take (i + 1)) k = plN (ns.take i) k ++ if n = k then [i] else [] := by
  have hi := (List.getElem?_eq_some_iff.1 h).1
  unfold plN
  rw [List.length_take, List.length_take, show min (i + 1) ns.length = i + 1 by omega, show min i ns.length = i by omega, List.range_succ, List.filter_append]
  congr 1
  · refine List.filter_congr fun j hj => ?_
    have hj := List.mem_range.1 hj
    rw [List.getElem?_take_of_lt zO, List.getElem?_take_of_lt zO]
  · have : ((ns.take (i + 1))[i]?.getD 0) = n := by rw [List.getElem?_take_of_lt zO, h]; rfl
    rw [List.filter_cons, List.filter_nil, this]
    by_cases e : n = k
    · simp [e]
    · simp [e]
/-- the places of all numbers below m -/
def plR (ns : List Nat) (m : Nat) : List (List Nat) := (List.range m).map (plN ns)
theorem plR_len (ns : List Nat) (m : Nat) : (plR ns m).length = m := by unfold plR; simp
theorem plR_get {ns : List Nat} {m k : Nat} (h : k < m) : (plR ns m)[k]? = some (plN ns k) := by
  unfold plR; rw [List.getElem?_map, List.getElem?_range h]; rfl
theorem plR_nil (m : Nat) : plR [] m = List.replicate m [] := by
  unfold plR
  rw [show plN [] = fun _ => [] from funext fun k => rfl, List.map_const', List.length_range]
theorem plR_set {ns : List Nat} {i n m : Nat} (h : ns[i]? = some n) (hn : n < m) : (plR (ns.take i) m).set n (plN (ns.take i) n ++ [i]) = plR (ns.take (i + 1)) m := by
  refine List.ext_getElem? fun j => ?_
  rw [List.getElem?_set, plR_len]
  rcases Nat.lt_or_ge j m with hj | hj
  · rw [plR_get hj, plR_get hj, plN_take h]
    by_cases e : n = j
    · subst e; rw [if_pos rfl, if_pos hn, if_pos rfl]
    · rw [if_neg e, if_neg e, List.append_nil]
  · rw [if_neg zO, List.getElem?_eq_none (by rw [plR_len]; exact hj), List.getElem?_eq_none (by rw [plR_len]; exact hj)]
theorem plR_succ (ns : List Nat) (k : Nat) : plR ns (k + 1) = plR ns k ++ [plN ns k] := by
  unfold plR; rw [List.range_succ, List.map_append]; rfl
theorem plR_take {ns : List Nat} {m k : Nat} (h : k ≤ m) : (plR ns m).take k = plR ns k := by
  unfold plR
  rw [← List.map_take, List.take_range, show min k m = k by omega]
theorem plN_length (ns : List Nat) (k : Nat) : (plN ns k).length ≤ ns.length := by
  unfold plN
  exact Nat.le_trans (List.length_filter_le _ _) (by simp)
theorem seN_length (ns : List Nat) (k : Nat) : (seN ns k).length ≤ ns.length := by
  unfold seN
  exact Nat.le_trans (List.length_filter_le _ _) (by simp)
theorem psOk_pl {ns : List Nat} (h : ns.length ≤ 127) (k : Nat) : PsOk (plN ns k) :=
  ⟨fun p hp => by have := (plN_mem.1 hp).1; omega, Nat.le_trans (plN_length ns k) h, plN_pw ns k⟩
theorem psOk_se {ns : List Nat} (h : ns.length ≤ 127) (k : Nat) : PsOk (seN ns k) :=
  ⟨fun p hp => by have := (seN_mem.1 hp).1; omega, Nat.le_trans (seN_length ns k) h, seN_pw ns k⟩
theorem uniA_pl (ns : List Nat) : ∀ k : Nat, uniA (plR ns k) = seN ns k
  | 0 => (seN_zero ns).symm
  | k + 1 => by
    have h := uniA_succ (xs := plR ns (k + 1)) (plR_get (Nat.lt_succ_self k))
    rw [plR_take (Nat.le_refl _), plR_take (Nat.le_succ k), uniA_pl ns k, seN_succ] at h
    exact h
theorem BunF.snoc {H : Hp} {k : IntKind} {vs : List Value} {xs : List (List Nat)} {v : Value} {x : List Nat} (h : BunF H k vs xs) (hv : NSl H k v x) : BunF H k (vs ++ [v]) (xs ++ [x]) := by
  induction h with
  | nil => exact .cons hv .nil
  | cons h1 _ ih => exact .cons h1 ih
theorem rep_flat (n : Nat) (v : Value) : (List.replicate n [v]).flatten = List.replicate n v := by
  induction n with
  | zero => rfl
  | succ n ih => rw [List.replicate_succ, List.replicate_succ, List.flatten_cons, ih]; rfl
theorem PV.ptrNil {P : Program} {e : Env} {l : List (Nat × Obj)} {H : Hp} {dst : Option Tmp} {ty : TypeId} {pos : String} {after : Array Edge} {gd : Option (Nat × Bool)} {t el t' : TypeId} (hm : P.underlying t = some (.pointer el)) {x y : Operand} {ad : Addr} (hx : evE e x = some (.pointer (some ad))) (hy : evE e y = some (.pointer none)) :
    PV P e l H ⟨dst, .binOp .eql t x y t', ty, pos, after, gd⟩ (.bool false) := PV.mk fun X D a w ha hw => by
  have h : ∀ d : Nat, (Op.equalIn (d + 1) t (.pointer (some ad)) (.pointer none)).run P w = .ok false w := fun d => by
    simp [Op.equalIn, run_underlying hm]
  have h1 : (binOp .eql t (.pointer (some ad)) (.pointer none)).run P w = .ok (.bool false) w := by
    simp only [binOp]
    simp [Op.equal, Op.maxDepth, h 9999]
  simp [execOp, ha.eval hx, ha.eval hy, eqGuard, h1]
structure TcG where
  a : Nat
  H : Hp
structure TcP where
  i : Nat
  pv : List Value
  ls : List (Nat × Obj)
  lo : List (Nat × Obj)
structure TcA where
  k : Nat
  av : Value
  la : List (Nat × Obj)
  vs : List Value
  last : Nat
  blk : Value
  H : Hp
structure TcI where
  j : Nat
  last : Nat
  blk : Value
  H : Hp
set_option maxRecDepth 100000 in
theorem codes_law (haw : ∀ H, Fn Tryz.prog 22 #[] H (fun u _ => u = .bool true)) (c : Cp) (H : Hp) (hc : CpR H c) :
    Fn Tryz.prog 3 #[cpV c] H (fun u _ => u = .bool true) := by
  have hti := tinyM_fn 100 zO c H hc
  have up1 : Tryz.prog.underlying 33 = some (.pointer 65) := Tryz.underlying33
  have up2 : Tryz.prog.underlying 37 = some (.pointer 97) := Tryz.underlying37
  have up3 : Tryz.prog.underlying 47 = some (.pointer 85) := Tryz.underlying47
  obtain ⟨aa, ca, at1, ct, ax, cx, ar, cr, an, cn, ah, ch, as1, cs, hcv⟩ := hc.open
  rw [hcv] at hti ⊢
  refine Fn.of_T (vs := [.agg #[.slice aa c.att.length ca, .slice at1 c.tk.length ct, .slice ax c.tx.length cx, .slice ar c.rg.length cr, .slice an c.nd.length cn, .slice ah c.hd.length ch, .slice as1 c.rl.length cs]]) Tryz.func3 rfl rfl fun w => ?_; refine zs3 ?_; (refine T.box Wanted.none rfl rfl zq15 ?_; intro b1); refine J6 ?_; (refine T.callX Wanted.none rfl rfl hti ?_; rintro _ ⟨b30, rfl, hb30⟩); refine J2 ?_
  cases b30
  · refine J5 ?_
    exact T.retF (Lv.fin (RV.tmp rfl rfl) rfl)
  obtain ⟨hA, hg, hl100, _, _, hla4⟩ := hb30 rfl
  refine J11 ?_; refine T.loopK [(34, Value.int IntKind.i64 (↑c.att.length : Int)), (1, Value.pointer (some { block := b1, off := 0 }))] zq8 (γ := TcG) (fun g => g.a ≤ c.att.length ∧ H.le g.H) (fun g => [(35, .int .i64 (g.a : Int))]) (fun _ => [(b1, .cells #[.slice aa c.att.length ca, .slice at1 c.tk.length ct, .slice ax c.tx.length cx, .slice ar c.rg.length cr, .slice an c.nd.length cn, .slice ah c.hd.length ch, .slice as1 c.rl.length cs] 30 (0, 0))]) (fun g => g.H) (fun g => c.att.length - g.a) ⟨0, H⟩ ⟨Nat.zero_le _, Hp.le.refl _⟩ zq8 zq23 rfl ?_
  rintro ⟨a, H0⟩ ⟨ha, hle0⟩
  dsimp only at ha hle0 ⊢
  by_cases h : a < c.att.length
  · have hd : decide ((a : Int) < (c.att.length : Int)) = true := decide_eq_true zO
    have hcol := column_fn c a H0 (hA.mono hle0) hg h
    rw [hcv] at hcol
    obtain ⟨vs, hvs⟩ : ∃ vs, vs = colL c a c.tk.length := ⟨_, rfl⟩
    have hvl : vs.length = c.tk.length := by rw [hvs]; exact colL_len c a _
    have hvv : ∀ v ∈ vs, validS v = true ∧ v.data.size ≤ 120 := fun v hv => by
      rw [hvs] at hv
      unfold colL at hv
      obtain ⟨i, hi, rfl⟩ := List.mem_map.1 hv
      obtain ⟨t, h1, h2⟩ := valT_at hg (List.mem_range.1 hi) h
      have := hg.v t (List.mem_of_getElem? h1) _ (List.mem_of_getElem? h2)
      exact ⟨this.2, this.1⟩
    rw [← hvs] at hcol
    have hvl100 : vs.length ≤ 100 := by omega
    refine yq31 ?_; refine J12 ?_; (refine T.call Wanted.none rfl rfl hcol ?_; intro v40 H1 hle1 hv40; obtain ⟨adv, capv, rfl⟩ := hv40.len); refine J5 ?_; (refine T.callW Wanted.none rfl rfl (lbuild_fn vs _ H1 hv40 zO hvv) zq1 ?_; rintro _ H2 _ _ ⟨hle2, ws, ns, xb, wv, cv, nv, ad2, n2, c2, rfl, rfl, hsw, hcs, hns, hlx⟩; obtain ⟨adn, capn, rfl⟩ := hns.len); refine J8 ?_
    have hnl : ns.length = vs.length := hlx.len
    have hnw : ∀ v ∈ ns, v < ws.length := fun v hv => hlx.lt hv
    have hwl : ws.length ≤ vs.length := keys_len (words_nodup hlx.ok) hlx.mem
    have hn127 : ns.length ≤ 127 := by omega
    have hb1000 : ∀ v ∈ ns, v < 1000 := fun v hv => by have := hnw v hv; omega
    have hok : WsOk ws (cntW vs ws) := ⟨(cntW_len vs ws).symm, by omega, fun w hw => (hvv w ((hlx.mem w).1 hw)).2, fun c hc => by
      unfold cntW at hc
      obtain ⟨w, hw, rfl⟩ := List.mem_map.1 hc
      have := cV_pos.2 ((hlx.mem w).1 hw)
      have := cV_le vs w
      omega⟩
    have hva : ∀ w ∈ ws, validS w = true := fun w hw => (hvv w ((hlx.mem w).1 hw)).1
    have hsum : (cntW vs ws).sum ≤ 4096 := by
      have := cntW_sum vs ws (words_nodup hlx.ok) fun v hv => (hlx.mem v).2 hv
      omega
    have hd9 : decide ((ns.length : Int) ≠ (vs.length : Int)) = false := decide_eq_false zO
    refine J3 ?_; (refine T.callW Wanted.none rfl rfl (tbuild_fn ns _ H2 hns zO hb1000) zq1 ?_; rintro _ H3 _ _ ⟨hle3, sb, lv, bv, es, rfl, rfl, hst⟩); refine J17 ?_; (refine gv (PV.ptrNil zA rfl rfl) ?_ /-T.none-/); refine J3 ?_; (refine gv (PV.ptrNil zA rfl rfl) ?_ /-T.none-/); refine J9 ?_; refine yq6 ?_; refine T.skip ?_
    have hen := lenc_fn ws (cntW vs ws) xb wv cv (.slice ad2 n2 c2) H3 (hsw.mono hle3) (hcs.mono hle3) hok
    refine J3 ?_; (refine T.callW Wanted.none rfl rfl hen zq1 ?_; rintro ve1 H4 _ _ ⟨hle4, rfl, hev1⟩); (refine T.callW Wanted.none rfl rfl (ldec_fn ws (cntW vs ws) _ H4 hev1 hok hlx.ok hva hsum) zq1 ?_; rintro _ H5 _ _ ⟨hle5, yb, wv2, cv2, ad3, n3, c3, rfl, rfl, hsw5, hcs5⟩); refine J6 ?_
    have hte := tencode_fn (kdS ns) ns sb lv bv es 0 (.slice none 0 0) H5 (kdS_le ns) ((hst.mono hle4).mono hle5) zO hb1000
    refine J3 ?_; (refine T.callW Wanted.none rfl rfl hte zq1 ?_; rintro ve2 H6 _ _ ⟨hle6, rfl, hev2⟩); (refine T.callW Wanted.none rfl rfl (tdec_fn ns _ H6 hev2 zO hb1000) zq1 ?_; rintro _ H7 _ _ ⟨hle7, tb, lv2, bv2, es2, rfl, rfl, hst7⟩); refine J17 ?_; (refine gv (PV.ptrNil zA rfl rfl) ?_ /-T.none-/); refine J3 ?_; (refine gv (PV.ptrNil zA rfl rfl) ?_ /-T.none-/); refine J4 ?_
    have hsw7 := (hsw5.mono hle6).mono hle7
    have hcs7 := (hcs5.mono hle6).mono hle7
    have hns7 := (((((hns.mono hle3).mono hle4).mono hle5).mono hle6).mono hle7)
    have hvs7 := (((((((hv40.mono hle2).mono hle3).mono hle4).mono hle5).mono hle6).mono hle7))
    have hle07 : H.le H7 := ((((((hle0.trans hle1).trans hle2).trans hle3).trans hle4).trans hle5).trans hle6).trans hle7
    have hsz := lsize_fn ws yb wv2 cv2 (.slice ad3 n3 c3) H7 hsw7
    refine J3 ?_; (refine T.callWV Wanted.none rfl rfl hsz zq1 ?_); (refine T.makeSliceN (n := ws.length) Wanted.none rfl rfl rfl zO ?_; intro v101 lv101 hv101; obtain ⟨ad101, cap101, rfl⟩ := hv101.val); refine J10 ?_
    rw [rep_flat] at hv101
    clear hev1 hev2 hen hte hsz hsw hcs hns hst hv40 hle1 hle2 hle3 hle4 hle5 hle6 hle7 hsw5 hcs5 hcol hti
    refine T.loopK [(103, Value.int IntKind.i64 (↑ns.length : Int)), (102, Value.slice adn ns.length capn), (12, Value.slice ad101 ws.length cap101), (11, Value.pointer (some { block := tb, off := 0 })), (10, Value.pointer (some { block := yb, off := 0 })), (4, Value.slice adv vs.length capv), (35, Value.int IntKind.i64 (↑a : Int)), (34, Value.int IntKind.i64 (↑c.att.length : Int)), (1, Value.pointer (some { block := b1, off := 0 }))] zq8 (γ := TcP) (fun g => g.i ≤ ns.length ∧ g.pv.length = ws.length ∧ Bun 3 .i64 g.pv g.ls (plR (ns.take g.i) ws.length) ∧ Vec 27 1 (.slice ad101 ws.length cap101) g.lo ws.length g.pv) (fun g => [(104, .int .i64 (g.i : Int))]) (fun g => LxB yb wv2 cv2 (.slice ad3 n3 c3) :: StB tb ns.length (kdS ns) lv2 bv2 0 (.slice none 0 0) :: (b1, .cells #[.slice aa c.att.length ca, .slice at1 c.tk.length ct, .slice ax c.tx.length cx, .slice ar c.rg.length cr, .slice an c.nd.length cn, .slice ah c.hd.length ch, .slice as1 c.rl.length cs] 30 (0, 0)) :: (g.lo ++ g.ls)) (fun _ => H7) (fun g => ns.length - g.i) ⟨0, List.replicate ws.length (.slice none 0 0), [], lv101⟩ ⟨Nat.zero_le _, List.length_replicate, by dsimp only; rw [List.take_zero, plR_nil]; exact Bun.rep _ _ _, hv101⟩ zq8 zq23 rfl ?_
    rintro ⟨i, pv, ls, lo⟩ ⟨hi2, hpl, hbn, hlo⟩
    dsimp only at hi2 hpl hbn hlo ⊢
    by_cases h2 : i < ns.length
    · obtain ⟨n, hn⟩ : ∃ n, ns[i]? = some n := ⟨_, List.getElem?_eq_getElem h2⟩
      have hnlt := hnw n (List.mem_of_getElem? hn)
      obtain ⟨b4, off4, rfl, hsub4⟩ := NSl.at hns7 hn
      obtain ⟨v0, lv0, r0, hpv0, hrow, hpk, hput⟩ := hbn.at (plR_get hnlt)
      obtain ⟨a0, c0, rfl⟩ := hrow.val
      obtain ⟨bq, cq, hve⟩ := hlo.ptr zO
      injection hve with e1 e2 e3
      subst e1 e3
      have hpv1 : pv[0 + (n : Int).toNat * 1]? = some (.slice a0 (plN (ns.take i) n).length c0) := by rw [Nat.zero_add, Nat.mul_one, Int.toNat_natCast]; exact hpv0
      have hd17 : decide ((i : Int) < (ns.length : Int)) = true := decide_eq_true zO
      have hd19 : decide ((n : Int) < 0) = false := decide_eq_false zO
      have hd20 : decide ((ws.length : Int) ≤ (n : Int)) = false := decide_eq_false zO
      have hpb : (plN (ns.take i) n).length ≤ 127 := by
        have := plN_length (ns.take i) n
        rw [List.length_take] at this
        omega
      refine yq98 ?_; refine J15 ?_; refine yq6 ?_; refine J7 ?_; refine yq92 ?_; refine sm ?_; (refine T.buildSlice Wanted.none rfl rfl zq11 zX zX ?_; intro b124); (refine T.appendP (lv := lv0) Wanted.none rfl rfl rfl hrow (Src.cells (m := 1) (ys := nV .i64 [i]) (.own zq2) rfl rfl) (nV_one _ _) zO (.leave (.leave (.leave (.leave (.app hpk))))) ?_; intro v125 lv125 hv125 _; have hv125 := NRow.app hv125; obtain ⟨ad125, cap125, rfl⟩ := hv125.val); refine sv (PV.indexAddr rfl rfl zO) ?_; (refine T.storeVecP (lv := lo) Wanted.none rfl rfl rfl hlo (by rw [Nat.zero_add, Nat.mul_one, Int.toNat_natCast, hpl]; exact hnlt) zq1 ?_; intro lo3 hlo3)
      refine J6 ?_
      rw [Nat.zero_add, Nat.mul_one, Int.toNat_natCast] at hlo3
      obtain ⟨ls', hb', hperm⟩ := hput _ lv125 _ hv125
      rw [plR_set hn hnlt] at hb'
      refine T.sel (l' := LxB yb wv2 cv2 (.slice ad3 n3 c3) :: StB tb ns.length (kdS ns) lv2 bv2 0 (.slice none 0 0) :: (b1, .cells #[.slice aa c.att.length ca, .slice at1 c.tk.length ct, .slice ax c.tx.length cx, .slice ar c.rg.length cr, .slice an c.nd.length cn, .slice ah c.hd.length ch, .slice as1 c.rl.length cs] 30 (0, 0)) :: (lo3 ++ (lv125 ++ r0))) zq23 ?_; refine T.perm ((((hperm.append_left lo3).cons _).cons _).cons _) ?_
      exact T.nextP ⟨i + 1, pv.set n (.slice ad125 (plN (ns.take i) n ++ [i]).length cap125), ls', lo3⟩ ⟨by dsimp only; omega, by dsimp only; rw [List.length_set]; exact hpl, hb', hlo3⟩ zE zq8 zq23 rfl
    · have hd17 : decide ((i : Int) < (ns.length : Int)) = false := decide_eq_false zO
      obtain rfl : i = ns.length := by omega
      rw [List.take_of_length_le (Nat.le_refl _)] at hbn
      refine yq44 ?_; refine J5 ?_; refine T.freezeP hlo zq1 ?_
      intro H8 hle8 hpo8
      refine T.freezeBunP hbn (.leave (.leave (.leave .all))) ?_
      intro H9 hle9 hbf9
      have hro9 : RoR H9 (.slice ad101 ws.length cap101) pv (plR ns ws.length) := ⟨by rw [hpl]; exact hpo8.mono hle9, hbf9⟩
      refine J8 ?_
      have hle79 := hle8.trans hle9
      clear hpo8 hbf9 hbn hlo hle8 hle9 hv101
      have hst9 := hst7.mono hle79
      refine T.loopK [(129, Value.int IntKind.i64 (↑ws.length : Int)), (12, Value.slice ad101 ws.length cap101), (11, Value.pointer (some { block := tb, off := 0 })), (10, Value.pointer (some { block := yb, off := 0 })), (4, Value.slice adv vs.length capv), (35, Value.int IntKind.i64 (↑a : Int)), (34, Value.int IntKind.i64 (↑c.att.length : Int)), (1, Value.pointer (some { block := b1, off := 0 }))] zq8 (γ := TcA) (fun g => g.k ≤ ws.length ∧ H9.le g.H ∧ g.last ≤ 10000 ∧ StrOk g.H tb (kdS ns) ns lv2 bv2 es2 g.last g.blk ∧ BunF g.H .i64 g.vs (plR ns g.k) ∧ Vec 27 1 g.av g.la g.vs.length g.vs) (fun g => [(130, .int .i64 (g.k : Int)), (15, g.av)]) (fun g => LxB yb wv2 cv2 (.slice ad3 n3 c3) :: StB tb ns.length (kdS ns) lv2 bv2 g.last g.blk :: (b1, .cells #[.slice aa c.att.length ca, .slice at1 c.tk.length ct, .slice ax c.tx.length cx, .slice ar c.rg.length cr, .slice an c.nd.length cn, .slice ah c.hd.length ch, .slice as1 c.rl.length cs] 30 (0, 0)) :: g.la) (fun g => g.H) (fun g => ws.length - g.k) ⟨0, .slice none 0 0, [], [], 0, .slice none 0 0, H9⟩ ⟨Nat.zero_le _, Hp.le.refl _, Nat.zero_le _, hst9, .nil, Vec.nil _ _⟩ zq8 zq23 rfl ?_
      rintro ⟨k, av, la, avs, last, blk, H10⟩ ⟨hk, hle10, hla10, hst10, hbf, hav⟩
      dsimp only at hk hle10 hla10 hst10 hbf hav ⊢
      have havl : avs.length = k := by rw [hbf.len, plR_len]
      by_cases h3 : k < ws.length
      · obtain ⟨w0, hw0⟩ : ∃ w0, ws[k]? = some w0 := ⟨_, List.getElem?_eq_getElem h3⟩
        have hps : PsOk (plN ns k) := psOk_pl hn127 k
        have hpl127 := hps.len
        obtain ⟨b5, off5, v5, rfl, hv5, hsub5⟩ := RoR.at (hro9.mono hle10) (plR_get h3)
        obtain ⟨a6, c6, rfl⟩ := hv5.len
        have hd25 : decide ((k : Int) < (ws.length : Int)) = true := decide_eq_true zO
        have hcnt : cV vs w0 = (plN ns k).length := by
          have h1 := hlx.count h3
          have h2 := (List.getElem?_eq_some_iff.1 hw0).2
          rw [h2] at h1
          rw [plN_len, ← h1]; rfl
        have hd31 : decide (((plN ns k).length : Int) ≠ ((cV vs w0 : Nat) : Int)) = false := by rw [hcnt]; exact decide_eq_false fun h => h rfl
        refine yq31 ?_; refine J13 ?_; refine yq10 ?_; (refine T.call Wanted.none rfl rfl (pbuild_fn (plN ns k) _ H10 hv5 hps) ?_; rintro _ H11 hle11 ⟨pb, rfl, hpo⟩); refine J13 ?_; (refine gv (PV.ptrNil zA rfl rfl) ?_ /-T.none-/); refine J7 ?_; (refine T.call Wanted.none rfl rfl (pencode_fn (plN ns k) pb H11 hpo hps) ?_; rintro ve3 H12 hle12 hev3); (refine T.call Wanted.none rfl rfl (pdecode_fn (plN ns k) _ H12 hev3 hps) ?_; rintro _ H13 hle13 ⟨qb, rfl, hpo2⟩); refine J2 ?_
        refine J4 ?_
        have hle913 := ((hle10.trans hle11).trans hle12).trans hle13
        have hsw13 := (hsw7.mono hle79).mono hle913
        have hcs13 := (hcs7.mono hle79).mono hle913
        have hln := plen_fn qb (plN ns k) H13 hpo2
        have hlc := lcount_fn (cntW vs ws) k (cV vs w0) yb wv2 cv2 (.slice ad3 n3 c3) H13 hcs13 (cntW_get hw0) (by rw [cntW_len]; omega)
        refine J7 ?_; (refine gv (PV.ptrNil zA rfl rfl) ?_ /-T.none-/); refine J3 ?_; refine T.callV (Wanted.guard rfl rfl rfl) rfl rfl (hln) ?_; refine J2 ?_; (refine T.callWV (Wanted.guard rfl rfl rfl) rfl rfl hlc zq1 ?_); refine J3 ?_; refine yq6 ?_; refine J5 ?_; (refine T.call Wanted.none rfl rfl (pall_fn (plN ns k) qb H13 hpo2 hps) ?_; rintro va H14 hle14 hva14; obtain ⟨ada, capa, rfl⟩ := hva14.len); refine J4 ?_
        have hst14 := ((((hst10.mono hle11).mono hle12).mono hle13).mono hle14)
        have hbf14 := ((((hbf.mono hle11).mono hle12).mono hle13).mono hle14)
        have hpo14 := hpo2.mono hle14
        have hle914 := hle913.trans hle14
        clear hlc hln hev3 hpo
        refine T.loopK [(169, Value.int IntKind.i64 (↑(plN ns k).length : Int)), (168, Value.slice ada (plN ns k).length capa), (19, Value.pointer (some { block := qb, off := 0 })), (16, Value.int IntKind.i64 (↑k : Int)), (130, Value.int IntKind.i64 (↑k : Int)), (15, av), (129, Value.int IntKind.i64 (↑ws.length : Int)), (12, Value.slice (some { block := b5, off := off5 }) ws.length cap101), (11, Value.pointer (some { block := tb, off := 0 })), (10, Value.pointer (some { block := yb, off := 0 })), (4, Value.slice adv vs.length capv), (35, Value.int IntKind.i64 (↑a : Int)), (34, Value.int IntKind.i64 (↑c.att.length : Int)), (1, Value.pointer (some { block := b1, off := 0 }))] zq8 (γ := TcI) (fun g => g.j ≤ (plN ns k).length ∧ H14.le g.H ∧ g.last ≤ 10000 ∧ StrOk g.H tb (kdS ns) ns lv2 bv2 es2 g.last g.blk) (fun g => [(170, .int .i64 (g.j : Int))]) (fun g => LxB yb wv2 cv2 (.slice ad3 n3 c3) :: StB tb ns.length (kdS ns) lv2 bv2 g.last g.blk :: (b1, .cells #[.slice aa c.att.length ca, .slice at1 c.tk.length ct, .slice ax c.tx.length cx, .slice ar c.rg.length cr, .slice an c.nd.length cn, .slice ah c.hd.length ch, .slice as1 c.rl.length cs] 30 (0, 0)) :: la) (fun g => g.H) (fun g => (plN ns k).length - g.j) ⟨0, last, blk, H14⟩ ⟨Nat.zero_le _, Hp.le.refl _, hla10, hst14⟩ zq8 zq23 rfl ?_
        rintro ⟨j, last, blk, H15⟩ ⟨hj, hle15, hla15, hst15⟩
        dsimp only at hj hle15 hla15 hst15 ⊢
        have hle915 := hle914.trans hle15
        by_cases h4 : j < (plN ns k).length
        · obtain ⟨p, hp⟩ : ∃ p, (plN ns k)[j]? = some p := ⟨_, List.getElem?_eq_getElem h4⟩
          obtain ⟨b7, off7, rfl, hsub7⟩ := NSl.at (hva14.mono hle15) hp
          obtain ⟨hpl1, hpl2⟩ := plN_mem.1 (List.mem_of_getElem? hp)
          have hnp : ns[p]? = some k := by
            rw [List.getElem?_eq_getElem hpl1] at hpl2 ⊢
            rw [← hpl2]; rfl
          have hvp : vs[p]? = some w0 := by
            have := hlx.num p zO
            rw [hpl2, hw0] at this
            exact this.symm
          have hat := tat_fn (kdS ns) ns tb p k lv2 bv2 es2 last blk H15 (kdS_le ns) hst15 zO hb1000 hnp hla15
          obtain ⟨b8, off8, rfl, hsub8⟩ := RowL.at lenT ((hvs7.mono hle79).mono hle915) hvp
          have hd34 : decide ((j : Int) < ((plN ns k).length : Int)) = true := decide_eq_true zO
          have hdk : decide ((k : Int) ≠ (k : Int)) = false := decide_eq_false fun h => h rfl
          have hdp : decide ((p : Int) < 0) = false := decide_eq_false zO
          have hdq : decide ((vs.length : Int) ≤ (p : Int)) = false := decide_eq_false zO
          have hdw : decide (w0 ≠ w0) = false := decide_eq_false fun h => h rfl
          refine yq94 ?_; refine J6 ?_; (refine T.callW Wanted.none rfl rfl hat zq1 ?_; rintro _ H16 _ _ ⟨hle16, rfl, last', blk', hla16, rfl, hst16⟩); refine J6 ?_
          have hsub9 := hsub8.mono hle16
          have hwd := lword_fn ws k w0 yb wv2 cv2 (.slice ad3 n3 c3) H16 (((hsw7.mono hle79).mono hle915).mono hle16) hw0 zO
          refine J4 ?_; (refine T.callWV Wanted.none rfl rfl hwd zq1 ?_); refine J20 ?_; refine yq0 ?_; refine T.pv (PV.lss rfl rfl) (Wanted.guard rfl rfl zA) rfl rfl ?_; refine yq90 ?_; refine J7 ?_; refine yq69 ?_; refine yq0 ?_; refine yq100 ?_; refine T.pv (PV.sneq rfl rfl) (Wanted.guard rfl rfl zA) rfl rfl ?_; refine yq90 ?_; refine so ?_
          refine yq85 ?_
          exact T.nextP ⟨j + 1, last', blk', H16⟩ ⟨by dsimp only; omega, hle15.trans hle16, hla16, hst16⟩ zE zq8 zq23 rfl
        · have hd34 : decide ((j : Int) < ((plN ns k).length : Int)) = false := decide_eq_false zO
          obtain rfl : j = (plN ns k).length := by omega
          refine yq44 ?_; refine J4 ?_; (refine T.call Wanted.none rfl rfl (pall_fn (plN ns k) qb H15 (hpo14.mono hle15) hps) ?_; rintro va2 H16 hle16 hva16; obtain ⟨adb, capb, rfl⟩ := hva16.len); (refine T.buildSlice Wanted.none rfl rfl zq11 zX zX ?_; intro b219); (refine T.appendP (lv := la) Wanted.none rfl rfl rfl hav (Src.cells (m := 1) (ys := [.slice adb (plN ns k).length capb]) (.own zq2) rfl rfl) (by intro u hu; rw [List.mem_singleton.1 hu]; rfl) zO zq1 ?_; intro v220 lv220 hv220 _); refine J7 ?_
          exact T.nextP ⟨k + 1, v220, lv220, avs ++ [.slice adb (plN ns k).length capb], last, blk, H16⟩ ⟨by dsimp only; omega, hle10.trans (((hle11.trans hle12).trans hle13).trans ((hle14.trans hle15).trans hle16)), hla15, hst15.mono hle16, by dsimp only; rw [plR_succ]; exact BunF.snoc ((hbf14.mono hle15).mono hle16) hva16, by dsimp only; rw [List.length_append]; exact hv220⟩ zE zq8 zq23 rfl
      · have hd25 : decide ((k : Int) < (ws.length : Int)) = false := decide_eq_false zO
        obtain rfl : k = ws.length := by omega
        refine yq44 ?_; refine T.exit rfl ?_; refine T.freezeP hav zq1 ?_
        intro H11 hle11 hav11
        have hme := lmerge_fn avs (plR ns ws.length) av H11 ⟨hav11, hbf.mono hle11⟩ (by rw [plR_len]; omega) (fun x hx => by
          obtain ⟨j, hj, rfl⟩ := List.mem_map.1 (show x ∈ (List.range ws.length).map (plN ns) from hx)
          exact psOk_pl hn127 j) (fun i hi => by
          rw [plR_len] at hi
          rw [plR_take hi, uniA_pl]
          exact psOk_se hn127 i)
        rw [uniA_pl, seN_all hnw] at hme
        have hd44 : decide (((List.range ns.length).length : Int) ≠ (vs.length : Int)) = false := decide_eq_false (by rw [List.length_range]; omega)
        refine J3 ?_; (refine T.call Wanted.none rfl rfl hme ?_; rintro _ H12 hle12 ⟨vu, rfl, hvu⟩; obtain ⟨adu, capu, rfl⟩ := hvu.len); refine J19 ?_; refine yq6 ?_; refine J8 ?_; refine T.loopK [(237, Value.int IntKind.i64 (↑(List.range ns.length).length : Int)), (26, Value.slice adu (List.range ns.length).length capu), (35, Value.int IntKind.i64 (↑a : Int)), (34, Value.int IntKind.i64 (↑c.att.length : Int)), (1, Value.pointer (some { block := b1, off := 0 }))] zq8 (γ := Nat) (fun j => j ≤ ns.length) (fun j => [(238, .int .i64 (j : Int))]) (fun _ => [(b1, .cells #[.slice aa c.att.length ca, .slice at1 c.tk.length ct, .slice ax c.tx.length cx, .slice ar c.rg.length cr, .slice an c.nd.length cn, .slice ah c.hd.length ch, .slice as1 c.rl.length cs] 30 (0, 0))]) (fun _ => H12) (fun j => ns.length - j) 0 (Nat.zero_le _) zq8 zq23 rfl ?_
        rintro j hj
        by_cases h5 : j < ns.length
        · obtain ⟨b7, off7, rfl, hsub7⟩ := NSl.at hvu (List.getElem?_range h5)
          have hd47 : decide ((j : Int) < ((List.range ns.length).length : Int)) = true := decide_eq_true (by rw [List.length_range]; omega)
          have hd49 : decide ((j : Int) ≠ (j : Int)) = false := decide_eq_false fun h => h rfl
          have hrl : (List.range ns.length).length = ns.length := List.length_range
          refine yq31 ?_; refine J13 ?_; refine yq10 ?_; refine J3 ?_; refine yq85 ?_
          exact T.nextP (j + 1) zO zO zq8 zq23 rfl
        · have hd47 : decide ((j : Int) < ((List.range ns.length).length : Int)) = false := decide_eq_false (by rw [List.length_range]; omega)
          refine yq44 ?_; refine J6 ?_
          exact T.nextP ⟨a + 1, H12⟩ ⟨by dsimp only; omega, (((hle07.trans hle79).trans hle10).trans hle11).trans hle12⟩ zE zq8 zq23 rfl
  · have hd : decide ((a : Int) < (c.att.length : Int)) = false := decide_eq_false zO
    refine yq44 ?_; refine J3 ?_; refine T.callV Wanted.none rfl rfl (haw _) ?_; refine J2 ?_
    exact T.retF (Lv.fin (RV.tmp rfl rfl) rfl)
end Go.Proofs.YtecogbhbkccblaaGreatDoor
