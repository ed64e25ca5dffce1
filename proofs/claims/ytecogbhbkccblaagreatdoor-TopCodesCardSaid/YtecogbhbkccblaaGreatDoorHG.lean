/- lexicon: reading words; Decode. -/
import Derived.Test.YtecogbhbkccblaaGreatDoorHE
set_option maxRecDepth 4000
set_option maxHeartbeats 40000000
set_option linter.all false
namespace Go.Proofs.YtecogbhbkccblaaGreatDoor
open Go.RowKit

theorem ltext_fn (rb : Nat) (v : Value) (bs : List UInt8) (rest : List Nat) (H : Hp) (hv : NSl H .u8 v (natL bs ++ rest)) (ha : bs.length ≤ 10000000) (hr : rest.length ≤ 10000000) : FnW Tryz.prog 34 #[.pointer (some ⟨rb, 0, none⟩), .int .i64 (bs.length : Int)] H [xNumberB rb v] (fun u H' l' => H' = H ∧ u = .string ⟨bs.toArray⟩ ∧ ∃ v', l' = [xNumberB rb v'] ∧ NSl H .u8 v' rest) := by
  obtain ⟨ad, cap, rfl⟩ := hv.len
  have hnl : (natL bs).length = bs.length := by unfold natL; exact List.length_map _
  have hlen : (natL bs ++ rest).length = bs.length + rest.length := by rw [List.length_append, hnl]
  have hcap := SlR.cap hv
  have hs := NSl.suf hv (lo := bs.length) zO
  rw [← hnl, List.drop_left, hnl] at hs
  have hp : SlR H 1 (.slice ad bs.length cap) bs.length (bytesV bs) := by
    have := SlR.pre hv (hi := bs.length) zO
    rw [Nat.mul_one, nV_take, ← hnl, List.take_left, hnl, ← natL_V] at this
    exact this
  have hd : decide (((natL bs ++ rest).length : Int) < (bs.length : Int)) = false := decide_eq_false zO
  refine FnW.of_T (vs := [.pointer (some ⟨rb, 0, none⟩), .int .i64 (bs.length : Int)]) Tryz.func34 rfl rfl fun w => ?_; refine J22 ?_; refine yq6 ?_; refine J8 ?_; refine sv (PV.sliceH rfl rfl zO) ?_; (refine sv (PV.bytesStr (n := bs.length) (bs := bs) rfl hp.src ⟨_, _, rfl⟩) ?_ /-T.none-/); refine J10 ?_; refine sv (PV.sliceL rfl rfl zO) ?_
  refine J2 ?_; refine yq1 ?_; refine J6 ?_
  exact T.retW (Lv.finW [xNumberB rb (slV 1 ad bs.length (natL bs ++ rest).length cap)] zq4 (RV.tmp rfl rfl) ⟨rfl, rfl, _, rfl, hs⟩)
theorem ext_take (s : ByteArray) (n : Nat) : (s.extract 0 n).data.toList = s.data.toList.take n := by
  rw [ByteArray.data_extract, Array.toList_extract, List.extract_eq_take_drop]
  simp
theorem ba_ext {a b : ByteArray} (h : a.data.toList = b.data.toList) : a = b := by
  cases a; cases b
  congr 1
  exact Array.toList_inj.1 h
section
variable {P : Program} {X : Cx} {e : Env} {l : List (Nat × Obj)} {H : Hp} {D : List Deferred} {k : List It} {all : Array Oper} {rest : List Oper} {ty : TypeId} {pos : String} {after : Array Edge} {gd : Option (Nat × Bool)}
/-- one word more -/
theorem T.pushT {t t' d el bytes b cp : Nat} [hs : SlOf P t el 1] [he : ElOf P el 1 bytes] [hn' : NotInt P t'] {x y : Operand} {v : Value} {lv r : List (Nat × Obj)} {ws : List ByteArray} {w : ByteArray} {t2 : TypeId} {fz : Nat × Nat}
    (hw : Wanted e all ⟨some d, .call ⟨.builtin .append, #[x, y], #[t, t']⟩, ty, pos, after, gd⟩) (hN : Nat.blt d X.N = true) (hx : evE e x = some v) (hy : evE e y = some (.slice (some ⟨b, 0, none⟩) 1 cp))
    (hv : RowV el encT 1 v lv ws) (hb : (b, Obj.cells #[.string w] t2 fz) ∈ l) (hle : (ws.length + 1) * bytes ≤ 140737488355328 ∧ ws.length + 1 ≤ 140737488355328) (hpk : Pick l lv r)
    (h : ∀ ad cap lv', RowV el encT 1 (.slice ad (ws ++ [w]).length cap) lv' (ws ++ [w]) → T P X ((d, .slice ad (ws ++ [w]).length cap) :: e) (lv' ++ r) H D (.ops all rest :: k)) :
    T P X e l H D (.ops all (⟨some d, .call ⟨.builtin .append, #[x, y], #[t, t']⟩, ty, pos, after, gd⟩ :: rest) :: k) :=
  T.appendP hw hN hx hy hv (Src.cells (m := 1) (ys := encT w) (.own hb) rfl rfl) (by intro u hu; rw [List.mem_singleton.1 hu]; rfl) hle hpk fun v' lv' hv' _ => by
    have hv2 := RowV.snoc (enc := encT) hv'
    obtain ⟨ad, cap, rfl⟩ := hv2.val
    exact h ad cap lv' hv2
/-- one number more -/
theorem T.pushN {t t' d el bytes b cp : Nat} [hs : SlOf P t el 1] [he : ElOf P el 1 bytes] [hn' : NotInt P t'] {x y : Operand} {v : Value} {lv r : List (Nat × Obj)} {kk : IntKind} {cs : List Nat} {c : Nat} {t2 : TypeId} {fz : Nat × Nat}
    (hw : Wanted e all ⟨some d, .call ⟨.builtin .append, #[x, y], #[t, t']⟩, ty, pos, after, gd⟩) (hN : Nat.blt d X.N = true) (hx : evE e x = some v) (hy : evE e y = some (.slice (some ⟨b, 0, none⟩) 1 cp))
    (hv : NRow el kk v lv cs) (hb : (b, Obj.cells #[.int kk (c : Int)] t2 fz) ∈ l) (hle : (cs.length + 1) * bytes ≤ 140737488355328 ∧ cs.length + 1 ≤ 140737488355328) (hpk : Pick l lv r)
    (h : ∀ ad cap lv', NRow el kk (.slice ad (cs ++ [c]).length cap) lv' (cs ++ [c]) → T P X ((d, .slice ad (cs ++ [c]).length cap) :: e) (lv' ++ r) H D (.ops all rest :: k)) :
    T P X e l H D (.ops all (⟨some d, .call ⟨.builtin .append, #[x, y], #[t, t']⟩, ty, pos, after, gd⟩ :: rest) :: k) :=
  T.appendP hw hN hx hy hv (Src.cells (m := 1) (ys := nV kk [c]) (.own hb) rfl rfl) (nV_one _ _) hle hpk fun v' lv' hv' _ => by
    have hv2 := NRow.app (m := [c]) hv'
    obtain ⟨ad, cap, rfl⟩ := hv2.val
    exact h ad cap lv' hv2
end
structure DlC where
  wv : Value
  lw : List (Nat × Obj)
  cv : Value
  lc : List (Nat × Obj)
structure DlG where
  i : Nat
  z : Int
  t : Int
  s : ByteArray
  v : Value
  wv : Value
  lw : List (Nat × Obj)
  cv : Value
  lc : List (Nat × Obj)
theorem ldec_fn (ws : List ByteArray) (cs : List Nat) (av : Value) (H : Hp) (ha : NSl H .u8 av (sealC (encX (ws.zip cs)))) (hok : WsOk ws cs) (hwo : WordsOk ws) (hva : ∀ w ∈ ws, validS w = true) (hsum : cs.sum ≤ 4096) : FnW Tryz.prog 8 #[av] H [] (fun u H' l' => H.le H' ∧ ∃ xb wv cv ad n c, u = .tuple #[.pointer (some ⟨xb, 0, none⟩), .int .i64 0] ∧ l' = [LxB xb wv cv (.slice ad n c)] ∧ StL H' wv ws ∧ NSl H' .i64 cv cs) := by
  have hwl := hok.few
  have hcl := hok.len
  have hXl := encX_len hok
  have hXt := encX_lt (ws.zip cs)
  have hslt := sealC_lt hXt
  have hLz := hok.zip
  obtain ⟨L, hL⟩ : ∃ L, L = ws.zip cs := ⟨_, rfl⟩
  have hLl : L.length = ws.length := by rw [hL, List.length_zip, ← hcl, Nat.min_self]
  rw [← hL] at ha hXl hXt hslt hLz
  have hun := unseal_fn (encX L) av H ha hXt zO
  have hp1 := putV_len 2 (show ws.length < 128 ^ 3 by omega)
  have hE0 : encX L = putV ws.length ++ encL (lastL [] (L.take 0)) (L.drop 0) := by
    rw [← hLl, List.drop_zero]; rfl
  have hEl := fun i => encL_len (lastL [] (L.take i)) (L.drop i) fun x hx => hLz x (List.mem_of_mem_drop hx)
  simp only [List.length_drop] at hEl
  have hn0 := fun rb v H1 hv => xNumber_fn rb v ws.length 1024 (encL (lastL [] (L.take 0)) (L.drop 0)) H1 hv zO zO zD (by have := hEl 0; omega)
  obtain ⟨ad, cap, rfl⟩ := ha.len
  refine FnW.of_T (vs := [.slice ad (sealC (encX L)).length cap]) Tryz.func8 rfl rfl fun w => ?_; refine J8 ?_; (refine T.call Wanted.none rfl rfl hun ?_; rintro _ H1 hle1 ⟨v1, rfl, hv1⟩; rw [hE0] at hv1; obtain ⟨a1, c1, rfl⟩ := hv1.len); refine J17 ?_; refine yq39 ?_; refine sy fun b6 => ?_; refine yq2 ?_; refine zs1 ?_; refine yq39 ?_; (refine T.box Wanted.none rfl rfl zq15 ?_; intro b24); refine J10 ?_; (refine T.callW Wanted.none rfl rfl (hn0 _ _ _ hv1) zq1 ?_; rintro _ H2 _ _ ⟨rfl, hH2, v2, rfl, hv2⟩; have hH2 := hH2.symm; subst hH2); refine J3 ?_; refine T.loopK [(7, Value.pointer (some { block := b24, off := 0 })), (6, Value.pointer (some { block := b6, off := 0 })), (0, Value.slice ad (sealC (encX L)).length cap)] zq8 (γ := DlG) (fun g => g.i ≤ ws.length ∧ g.z = (ws.length : Int) - g.i ∧ g.t = ((cs.take g.i).sum : Int) ∧ g.s.data.size ≤ 120 ∧ g.s.data.toList = lastL [] (L.take g.i) ∧ NSl H1 .u8 g.v (encL (lastL [] (L.take g.i)) (L.drop g.i)) ∧ RowV 9 encT 1 g.wv g.lw (ws.take g.i) ∧ NRow 3 .i64 g.cv g.lc (cs.take g.i)) (fun g => [(10, .int .i64 g.z), (9, .int .i64 g.t), (8, .string g.s)]) (fun g => LxB b24 g.wv g.cv (.slice none 0 0) :: xNumberB b6 g.v :: (g.lw ++ g.lc)) (fun _ => H1) (fun g => ws.length - g.i) ⟨0, (ws.length : Int), 0, ⟨#[]⟩, v2, .slice none 0 0, [], .slice none 0 0, []⟩ ⟨Nat.zero_le _, by dsimp only; omega, rfl, Nat.zero_le _, rfl, hv2, Vec.nil _ _, NRow.nil _ _⟩ zq8 zq23 rfl ?_
  rintro ⟨i, z, t, s, v, wv, lw, cv, lc⟩ ⟨hi, hz, ht, hss, hsl, hv, hwv, hcv⟩
  dsimp only at hi hz ht hss hsl hv hwv hcv ⊢
  obtain ⟨aw, cw, rfl⟩ := hwv.val
  obtain ⟨ac, cc, rfl⟩ := hcv.val
  have htw : (ws.take i).length = i := by rw [List.length_take]; omega
  have htc : (cs.take i).length = i := by rw [List.length_take]; omega
  by_cases h : i < ws.length
  · obtain ⟨x, hx⟩ : ∃ x, ws[i]? = some x := ⟨_, List.getElem?_eq_getElem h⟩
    obtain ⟨c, hcx⟩ : ∃ c, cs[i]? = some c := ⟨_, List.getElem?_eq_getElem zO⟩
    have hLx : L[i]? = some (x, c) := by rw [hL, List.getElem?_zip_eq_some]; exact ⟨hx, hcx⟩
    have hx1 := hok.short x (List.mem_of_getElem? hx)
    have hc1 := hok.cnt c (List.mem_of_getElem? hcx)
    have hvx := hva x (List.mem_of_getElem? hx)
    have hxt : x.data.toList.length = x.data.size := Array.length_toList
    have hst : s.data.toList.length = s.data.size := Array.length_toList
    have hssz : s.size = s.data.size := rfl
    have hxsz : x.size = x.data.size := rfl
    have hcm := comL_le s.data.toList x.data.toList
    have hea := encL_at (b := []) hLx
    rw [← hsl] at hea hv
    rw [hea] at hv
    have hlast : x.data.toList = lastL [] (L.take (i + 1)) := by
      rw [List.take_add_one, hLx, Option.toList_some, lastL_snoc]
    have hjoin := comL_join s.data.toList x.data.toList
    obtain ⟨n, hn⟩ : ∃ n, n = comL s.data.toList x.data.toList := ⟨_, rfl⟩
    dsimp only at hv
    rw [← hn] at hcm hv hjoin
    obtain ⟨R, hR⟩ : ∃ R, R = encL x.data.toList (L.drop (i + 1)) := ⟨_, rfl⟩
    have hRl : R.length ≤ 129 * 1000 := by
      have := hEl (i + 1)
      rw [← hlast, ← hR] at this
      omega
    rw [← hR] at hv
    obtain ⟨bs, hbs⟩ : ∃ bs, bs = x.data.toList.drop n := ⟨_, rfl⟩
    have hbl : bs.length = x.data.toList.length - n := by rw [hbs, List.length_drop]
    rw [← hbs, ← hbl] at hv
    have hnl : (natL bs).length = bs.length := by unfold natL; exact List.length_map _
    have q1 := putV_len 2 (show n < 128 ^ 3 by omega)
    have q2 := putV_len 2 (show bs.length < 128 ^ 3 by omega)
    have q3 := putV_len 2 (show c - 1 < 128 ^ 3 by omega)
    have hk1 := fun v hv => xNumber_fn b6 v n s.size (putV bs.length ++ (natL bs ++ (putV (c - 1) ++ R))) H1 hv zO (show n ≤ s.data.size by omega) (show s.data.size < 2 ^ 62 by omega) (by simp only [List.length_append]; omega)
    have hk2 := fun v hv => xNumber_fn b6 v bs.length 120 (natL bs ++ (putV (c - 1) ++ R)) H1 hv zO zO zD (by simp only [List.length_append]; omega)
    have hk3 := fun v hv => ltext_fn b6 v bs (putV (c - 1) ++ R) H1 hv zO (by simp only [List.length_append]; omega)
    have hk4 := fun v hv => xNumber_fn b6 v (c - 1) 4095 R H1 hv zO zO zD zO
    have hA1 : (s.extract 0 (n : Int).toNat).size ≤ 120 := by
      have h1 := congrArg List.length (ext_take s n)
      rw [Array.length_toList, List.length_take] at h1
      show (s.extract 0 n).data.size ≤ 120
      omega
    have hT1 : (⟨bs.toArray⟩ : ByteArray).size ≤ 120 := by
      show bs.toArray.size ≤ 120
      rw [List.size_toArray]; omega
    have hxe : s.extract 0 (n : Int).toNat ++ (⟨bs.toArray⟩ : ByteArray) = x := by
      refine ba_ext ?_
      rw [ByteArray.data_append, Array.toList_append, show (s.extract 0 (n : Int).toNat).data.toList = s.data.toList.take n from ext_take s n, hbs]
      exact hjoin
    have hcc : ((c - 1 : Nat) : Int) + 1 = (c : Int) := by omega
    have hsumi : (cs.take (i + 1)).sum = (cs.take i).sum + c := by
      rw [List.take_add_one, hcx]; simp
    have hsum1 : (cs.take (i + 1)).sum ≤ 4096 := by
      have h1 := congrArg List.sum (List.take_append_drop (i + 1) cs)
      rw [List.sum_append] at h1
      omega
    have hd : decide ((0 : Int) < z) = true := decide_eq_true zO
    have hd3 : decide ((4096 : Int) < t + (c : Int)) = false := decide_eq_false zO
    have hd4 : decide ((120 : Int) < (x.size : Int)) = false := decide_eq_false (by show ¬ (120 : Int) < (x.data.size : Int); omega)
    have hvl := validP_fn x H1 (by show x.data.size ≤ 20000; omega)
    rw [hvx] at hvl
    refine J6 ?_; refine T.pv (PV.fieldAddr rfl) (Wanted.guard rfl rfl zA) rfl rfl ?_; refine T.pv (PV.load1 rfl zq0 rfl) (Wanted.guard rfl rfl zA) rfl rfl ?_; refine sv (PV.pickT rfl zA rfl) ?_; refine J9 ?_; (refine T.callW Wanted.none rfl rfl (hk1 _ hv) zq1 ?_; rintro _ H36 _ _ ⟨rfl, hH36, v3, rfl, hv3⟩; have hH36 := hH36.symm; subst hH36); refine J2 ?_
    (repeat refine sq ?_)
    refine T.regionO [] zK ?_; refine yq3 ?_; refine TO.take 2 rfl zK zK zK (PV.sliceStrH rfl rfl zO) Wanted.none rfl rfl ?_; refine TO.step 3 rfl zK zq4 zq19 ?_; (refine T.callW Wanted.none rfl rfl (hk2 _ hv3) zq1 ?_; rintro _ H40 _ _ ⟨rfl, hH40, v4, rfl, hv4⟩; have hH40 := hH40.symm; subst hH40); refine yq30 ?_; refine TO.step 4 rfl zK zq4 zq19 ?_; (refine T.callW Wanted.none rfl rfl (hk3 _ hv4) zq1 ?_; rintro _ H41 _ _ ⟨hH41, rfl, v5, rfl, hv5⟩; have hH41 := hH41.symm; subst hH41); refine yq30 ?_; refine TO.take 5 rfl zK zK zK (PV.sadd rfl rfl zO) Wanted.none rfl rfl ?_; refine TO.take 6 rfl zK zK zK (PV.assign rfl) Wanted.none rfl rfl ?_; refine yq37 ?_
    rw [hxe]
    refine zs3 ?_; (refine T.callW Wanted.none rfl rfl (hk4 _ hv5) zq1 ?_; rintro _ H43 _ _ ⟨rfl, hH43, v6, rfl, hv6⟩; have hH43 := hH43.symm; subst hH43); refine J10 ?_
    rw [hcc]
    have hsx : i = 0 ∨ (0 < i ∧ (Op.bytesLess x.data.toList s.data.toList || decide (x = s)) = false) := by
      rcases Nat.eq_zero_or_pos i with h0 | h0
      · exact .inl h0
      · refine .inr ⟨h0, ?_⟩
        obtain ⟨y, hye⟩ : ∃ y, y = ws[i - 1]'zO := ⟨_, rfl⟩
        have hy : ws[i - 1]? = some y := by rw [hye]; exact List.getElem?_eq_getElem _
        obtain ⟨c', hc'⟩ : ∃ c, cs[i - 1]? = some c := ⟨_, List.getElem?_eq_getElem zO⟩
        have hLy : L[i - 1]? = some (y, c') := by rw [hL, List.getElem?_zip_eq_some]; exact ⟨hy, hc'⟩
        have hsy : s = y := by
          refine ba_ext ?_
          rw [hsl, show L.take i = L.take (i - 1 + 1) by rw [show i - 1 + 1 = i by omega], List.take_add_one, hLy, Option.toList_some, lastL_snoc]
        have hxe' : x = ws[i] := by
          have := List.getElem?_eq_getElem h
          rw [hx] at this
          exact Option.some.inj this
        have hb := (words_lt hwo (show i - 1 < ws.length by omega) h).2 zO
        rw [← hye, ← hsy, ← hxe'] at hb
        rw [Bool.or_eq_false_iff]
        refine ⟨?_, decide_eq_false fun e => ?_⟩
        · rw [Bool.eq_false_iff]
          intro hc
          have := blW_trans hb (show blW x s = true from hc)
          rw [blW_irr] at this; cases this
        · rw [e, blW_irr] at hb; cases hb
    have htw' : ws.take (i + 1) = ws.take i ++ [x] := by rw [List.take_add_one, hx]; rfl
    have htc' : cs.take (i + 1) = cs.take i ++ [c] := by rw [List.take_add_one, hcx]; rfl
    have hdr : encL (lastL [] (L.take (i + 1))) (L.drop (i + 1)) = R := by rw [← hlast, hR]
    (repeat refine sq ?_)
    refine T.cutK2 (γ := Unit) [(0, .slice ad (sealC (encX L)).length cap), (6, .pointer (some ⟨b6, 0, none⟩)), (7, .pointer (some ⟨b24, 0, none⟩)), (9, .int .i64 (t + (c : Int))), (10, .int .i64 z), (12, .string x), (13, .int .i64 (c : Int))] (fun _ => True) (fun _ => []) (fun _ => LxB b24 (.slice aw (ws.take i).length cw) (.slice ac (cs.take i).length cc) (.slice none 0 0) :: xNumberB b6 v6 :: (lw ++ lc)) (fun _ _ => ?_) (fun KK => ?_)
    · have hz1 : z - 1 = (ws.length : Int) - ((i + 1 : Nat) : Int) := by omega
      have ht1 : t + (c : Int) = ((cs.take (i + 1)).sum : Int) := by omega
      have hdl : ws.length - (i + 1) < ws.length - i := by omega
      have hi1 : i + 1 ≤ ws.length := by omega
      have hbw : (ws.take i).length ≤ 1000 := by omega
      have hbc : (cs.take i).length ≤ 1000 := by omega
      rw [← hdr] at hv6
      clear hk1 hk2 hk3 hk4 hn0 hE0 hEl hun hea hv hsx hsum1 hsumi hcc hxe hT1 hA1 hRl hR hvl hd4 hd3 hd q1 q2 q3 hnl hbl hbs hjoin hcm hst hxt hsum
      (repeat refine sq ?_)
      refine T.cutK [(0, Value.slice ad (sealC (encX L)).length cap), (6, Value.pointer (some { block := b6, off := 0 })), (7, Value.pointer (some { block := b24, off := 0 })), (9, Value.int IntKind.i64 (t + (↑c : Int))), (10, Value.int IntKind.i64 z), (12, Value.string x)] (γ := DlC) (fun g => RowV 9 encT 1 g.wv g.lw (ws.take i ++ [x]) ∧ NRow 3 .i64 g.cv g.lc (cs.take i ++ [c])) (fun _ => []) (fun g => g.lc ++ (g.lw ++ [LxB b24 g.wv g.cv (.slice none 0 0), xNumberB b6 v6])) ?_ fun K => ?_
      rotate_left
      · refine T.regionS [LxB b24 (.slice aw (ws.take i).length cw) (.slice ac (cs.take i).length cc) (.slice none 0 0)] 18 zK ?_; refine yq93 ?_; refine TS.take 2 rfl zK zK zK zK (PV.move rfl) Wanted.none rfl rfl ?_; refine TS.take 3 rfl zK zK zK zK (PV.nilCheck rfl) Wanted.none rfl rfl ?_; refine yq89 ?_; refine TS.take 6 rfl zK zK zK zK (PV.move rfl) Wanted.none rfl rfl ?_; refine TS.takeT 9 rfl zK zK zK zK (PV.move rfl) Wanted.none rfl rfl ?_; refine TS.takeT 10 rfl zK zK zK zK (PV.nilCheck rfl) Wanted.none rfl rfl ?_; refine TS.takeT 11 rfl zK zK zK zK (PV.fieldAddr rfl) Wanted.none rfl rfl ?_; refine TS.take 12 rfl zK zK zK zK (PV.load1 rfl zq0 rfl) Wanted.none rfl rfl ?_; refine TS.takeT 13 rfl zK zK zK zK (PV.move rfl) Wanted.none rfl rfl ?_
        refine TS.ways [1, 7, 14] zK rfl (.inr ⟨zq4, zq19⟩) ⟨⟨_, rfl, ?_⟩, ⟨_, rfl, ?_⟩, ⟨_, rfl, ?_⟩, trivial⟩
        · refine yq24 ?_
          refine TS.ways [7, 14] zK rfl (.inr ⟨zq4, zq19⟩) ⟨⟨_, rfl, ?_⟩, ⟨_, rfl, ?_⟩, trivial⟩
          · (refine T.buildSlice Wanted.none rfl rfl zq11 zX zX ?_; intro b80); refine yq4 ?_
            refine TS.ways [8, 14] zK rfl (.inr ⟨zq4, zq19⟩) ⟨⟨_, rfl, ?_⟩, ⟨_, rfl, ?_⟩, trivial⟩
            · (refine T.pushT (lv := lw) Wanted.none rfl rfl rfl hwv zq2 zO zq1 ?_; intro ad81 cap81 lv81 hv81); refine yq4 ?_
              refine TS.ways [14] zK rfl (.inr ⟨zq4, zq19⟩) ⟨⟨_, rfl, ?_⟩, trivial⟩
              (refine T.buildSlice Wanted.none rfl rfl zq11 zX zX ?_; intro b87); refine yq4 ?_
              refine yq38 ?_
              (refine T.pushN (lv := lc) Wanted.none rfl rfl rfl hcv zq2 zO zq1 ?_; intro ad88 cap88 lv88 hv88); refine yq4 ?_; refine yq8 ?_
              refine yq29 ?_
              refine yq120 ?_
              refine yq26 ?_
              refine yq24 ?_
              refine yq27 ?_
              refine yq24 ?_
              refine yq28 ?_
              refine yq75 ?_; (exact K ⟨_, lv81, _, lv88⟩ _ _ ⟨hv81, hv88⟩ zq8 zq23)
            · (refine T.buildSlice Wanted.none rfl rfl zq11 zX zX ?_; intro b87); refine yq4 ?_
              refine yq82 ?_
              (refine T.pushT (lv := lw) Wanted.none rfl rfl rfl hwv zq2 zO zq1 ?_; intro ad81 cap81 lv81 hv81); refine yq4 ?_
              refine yq38 ?_
              (refine T.pushN (lv := lc) Wanted.none rfl rfl rfl hcv zq2 zO zq1 ?_; intro ad88 cap88 lv88 hv88); refine yq4 ?_; refine yq8 ?_
              refine yq29 ?_
              refine yq120 ?_
              refine yq26 ?_
              refine yq24 ?_
              refine yq27 ?_
              refine yq24 ?_
              refine yq28 ?_
              refine yq75 ?_; (exact K ⟨_, lv81, _, lv88⟩ _ _ ⟨hv81, hv88⟩ zq8 zq23)
          · (refine T.buildSlice Wanted.none rfl rfl zq11 zX zX ?_; intro b87); refine yq4 ?_
            refine TS.ways [7] zK rfl (.inr ⟨zq4, zq19⟩) ⟨⟨_, rfl, ?_⟩, trivial⟩
            (refine T.buildSlice Wanted.none rfl rfl zq11 zX zX ?_; intro b80); refine yq4 ?_
            refine yq82 ?_
            (refine T.pushT (lv := lw) Wanted.none rfl rfl rfl hwv zq2 zO zq1 ?_; intro ad81 cap81 lv81 hv81); refine yq4 ?_
            refine yq38 ?_
            (refine T.pushN (lv := lc) Wanted.none rfl rfl rfl hcv zq2 zO zq1 ?_; intro ad88 cap88 lv88 hv88); refine yq4 ?_; refine yq8 ?_
            refine yq29 ?_
            refine yq120 ?_
            refine yq26 ?_
            refine yq24 ?_
            refine yq27 ?_
            refine yq24 ?_
            refine yq28 ?_
            refine yq75 ?_; (exact K ⟨_, lv81, _, lv88⟩ _ _ ⟨hv81, hv88⟩ zq8 zq23)
        · (refine T.buildSlice Wanted.none rfl rfl zq11 zX zX ?_; intro b80); refine yq4 ?_
          refine TS.ways [1, 8, 14] zK rfl (.inr ⟨zq4, zq19⟩) ⟨⟨_, rfl, ?_⟩, ⟨_, rfl, ?_⟩, ⟨_, rfl, ?_⟩, trivial⟩
          · refine yq24 ?_
            refine TS.ways [8, 14] zK rfl (.inr ⟨zq4, zq19⟩) ⟨⟨_, rfl, ?_⟩, ⟨_, rfl, ?_⟩, trivial⟩
            · (refine T.pushT (lv := lw) Wanted.none rfl rfl rfl hwv zq2 zO zq1 ?_; intro ad81 cap81 lv81 hv81); refine yq4 ?_
              refine TS.ways [14] zK rfl (.inr ⟨zq4, zq19⟩) ⟨⟨_, rfl, ?_⟩, trivial⟩
              (refine T.buildSlice Wanted.none rfl rfl zq11 zX zX ?_; intro b87); refine yq4 ?_
              refine yq38 ?_
              (refine T.pushN (lv := lc) Wanted.none rfl rfl rfl hcv zq2 zO zq1 ?_; intro ad88 cap88 lv88 hv88); refine yq4 ?_; refine yq8 ?_
              refine yq29 ?_
              refine yq120 ?_
              refine yq26 ?_
              refine yq24 ?_
              refine yq27 ?_
              refine yq24 ?_
              refine yq28 ?_
              refine yq75 ?_; (exact K ⟨_, lv81, _, lv88⟩ _ _ ⟨hv81, hv88⟩ zq8 zq23)
            · (refine T.buildSlice Wanted.none rfl rfl zq11 zX zX ?_; intro b87); refine yq4 ?_
              refine yq82 ?_
              (refine T.pushT (lv := lw) Wanted.none rfl rfl rfl hwv zq2 zO zq1 ?_; intro ad81 cap81 lv81 hv81); refine yq4 ?_
              refine yq38 ?_
              (refine T.pushN (lv := lc) Wanted.none rfl rfl rfl hcv zq2 zO zq1 ?_; intro ad88 cap88 lv88 hv88); refine yq4 ?_; refine yq8 ?_
              refine yq29 ?_
              refine yq120 ?_
              refine yq26 ?_
              refine yq24 ?_
              refine yq27 ?_
              refine yq24 ?_
              refine yq28 ?_
              refine yq75 ?_; (exact K ⟨_, lv81, _, lv88⟩ _ _ ⟨hv81, hv88⟩ zq8 zq23)
          · (refine T.pushT (lv := lw) Wanted.none rfl rfl rfl hwv zq2 zO zq1 ?_; intro ad81 cap81 lv81 hv81); refine yq4 ?_
            refine TS.ways [1, 14] zK rfl (.inr ⟨zq4, zq19⟩) ⟨⟨_, rfl, ?_⟩, ⟨_, rfl, ?_⟩, trivial⟩
            · refine yq24 ?_
              refine TS.ways [14] zK rfl (.inr ⟨zq4, zq19⟩) ⟨⟨_, rfl, ?_⟩, trivial⟩
              (refine T.buildSlice Wanted.none rfl rfl zq11 zX zX ?_; intro b87); refine yq4 ?_
              refine yq38 ?_
              (refine T.pushN (lv := lc) Wanted.none rfl rfl rfl hcv zq2 zO zq1 ?_; intro ad88 cap88 lv88 hv88); refine yq4 ?_; refine yq8 ?_
              refine yq29 ?_
              refine yq120 ?_
              refine yq26 ?_
              refine yq24 ?_
              refine yq27 ?_
              refine yq24 ?_
              refine yq28 ?_
              refine yq75 ?_; (exact K ⟨_, lv81, _, lv88⟩ _ _ ⟨hv81, hv88⟩ zq8 zq23)
            · (refine T.buildSlice Wanted.none rfl rfl zq11 zX zX ?_; intro b87); refine yq4 ?_
              refine TS.ways [1, 15] zK rfl (.inr ⟨zq4, zq19⟩) ⟨⟨_, rfl, ?_⟩, ⟨_, rfl, ?_⟩, trivial⟩
              · refine yq24 ?_
                refine yq38 ?_
                (refine T.pushN (lv := lc) Wanted.none rfl rfl rfl hcv zq2 zO zq1 ?_; intro ad88 cap88 lv88 hv88); refine yq4 ?_; refine yq8 ?_
                refine yq29 ?_
                refine yq120 ?_
                refine yq26 ?_
                refine yq24 ?_
                refine yq27 ?_
                refine yq24 ?_
                refine yq28 ?_
                refine yq75 ?_; (exact K ⟨_, lv81, _, lv88⟩ _ _ ⟨hv81, hv88⟩ zq8 zq23)
              · (refine T.pushN (lv := lc) Wanted.none rfl rfl rfl hcv zq2 zO zq1 ?_; intro ad88 cap88 lv88 hv88); refine yq4 ?_; refine yq8 ?_
                refine TS.ways [1, 18] zK rfl (.inr ⟨zq4, zq19⟩) ⟨⟨_, rfl, ?_⟩, ⟨_, rfl, ?_⟩, trivial⟩
                · refine yq24 ?_
                  refine yq29 ?_
                  refine yq120 ?_
                  refine yq26 ?_
                  refine yq24 ?_
                  refine yq27 ?_
                  refine yq24 ?_
                  refine yq28 ?_
                  refine yq75 ?_; (exact K ⟨_, lv81, _, lv88⟩ _ _ ⟨hv81, hv88⟩ zq8 zq23)
                · refine yq120 ?_
                  refine TS.ways [1] zK rfl (.inl zK) ⟨⟨_, rfl, ?_⟩, trivial⟩
                  refine yq24 ?_
                  refine yq26 ?_
                  refine yq24 ?_
                  refine yq27 ?_
                  refine yq24 ?_
                  refine yq28 ?_
                  refine yq75 ?_; (exact K ⟨_, lv81, _, lv88⟩ _ _ ⟨hv81, hv88⟩ zq8 zq23)
          · (refine T.buildSlice Wanted.none rfl rfl zq11 zX zX ?_; intro b87); refine yq4 ?_
            refine TS.ways [1, 8] zK rfl (.inr ⟨zq4, zq19⟩) ⟨⟨_, rfl, ?_⟩, ⟨_, rfl, ?_⟩, trivial⟩
            · refine yq24 ?_
              refine yq82 ?_
              (refine T.pushT (lv := lw) Wanted.none rfl rfl rfl hwv zq2 zO zq1 ?_; intro ad81 cap81 lv81 hv81); refine yq4 ?_
              refine yq38 ?_
              (refine T.pushN (lv := lc) Wanted.none rfl rfl rfl hcv zq2 zO zq1 ?_; intro ad88 cap88 lv88 hv88); refine yq4 ?_; refine yq8 ?_
              refine yq29 ?_
              refine yq120 ?_
              refine yq26 ?_
              refine yq24 ?_
              refine yq27 ?_
              refine yq24 ?_
              refine yq28 ?_
              refine yq75 ?_; (exact K ⟨_, lv81, _, lv88⟩ _ _ ⟨hv81, hv88⟩ zq8 zq23)
            · (refine T.pushT (lv := lw) Wanted.none rfl rfl rfl hwv zq2 zO zq1 ?_; intro ad81 cap81 lv81 hv81); refine yq4 ?_
              refine TS.ways [1, 15] zK rfl (.inr ⟨zq4, zq19⟩) ⟨⟨_, rfl, ?_⟩, ⟨_, rfl, ?_⟩, trivial⟩
              · refine yq24 ?_
                refine yq38 ?_
                (refine T.pushN (lv := lc) Wanted.none rfl rfl rfl hcv zq2 zO zq1 ?_; intro ad88 cap88 lv88 hv88); refine yq4 ?_; refine yq8 ?_
                refine yq29 ?_
                refine yq120 ?_
                refine yq26 ?_
                refine yq24 ?_
                refine yq27 ?_
                refine yq24 ?_
                refine yq28 ?_
                refine yq75 ?_; (exact K ⟨_, lv81, _, lv88⟩ _ _ ⟨hv81, hv88⟩ zq8 zq23)
              · (refine T.pushN (lv := lc) Wanted.none rfl rfl rfl hcv zq2 zO zq1 ?_; intro ad88 cap88 lv88 hv88); refine yq4 ?_; refine yq8 ?_
                refine TS.ways [1, 18] zK rfl (.inr ⟨zq4, zq19⟩) ⟨⟨_, rfl, ?_⟩, ⟨_, rfl, ?_⟩, trivial⟩
                · refine yq24 ?_
                  refine yq29 ?_
                  refine yq120 ?_
                  refine yq26 ?_
                  refine yq24 ?_
                  refine yq27 ?_
                  refine yq24 ?_
                  refine yq28 ?_
                  refine yq75 ?_; (exact K ⟨_, lv81, _, lv88⟩ _ _ ⟨hv81, hv88⟩ zq8 zq23)
                · refine yq120 ?_
                  refine TS.ways [1] zK rfl (.inl zK) ⟨⟨_, rfl, ?_⟩, trivial⟩
                  refine yq24 ?_
                  refine yq26 ?_
                  refine yq24 ?_
                  refine yq27 ?_
                  refine yq24 ?_
                  refine yq28 ?_
                  refine yq75 ?_; (exact K ⟨_, lv81, _, lv88⟩ _ _ ⟨hv81, hv88⟩ zq8 zq23)
        · (refine T.buildSlice Wanted.none rfl rfl zq11 zX zX ?_; intro b87); refine yq4 ?_
          refine TS.ways [1, 7] zK rfl (.inr ⟨zq4, zq19⟩) ⟨⟨_, rfl, ?_⟩, ⟨_, rfl, ?_⟩, trivial⟩
          · refine yq24 ?_
            refine TS.ways [7] zK rfl (.inr ⟨zq4, zq19⟩) ⟨⟨_, rfl, ?_⟩, trivial⟩
            (refine T.buildSlice Wanted.none rfl rfl zq11 zX zX ?_; intro b80); refine yq4 ?_
            refine yq82 ?_
            (refine T.pushT (lv := lw) Wanted.none rfl rfl rfl hwv zq2 zO zq1 ?_; intro ad81 cap81 lv81 hv81); refine yq4 ?_
            refine yq38 ?_
            (refine T.pushN (lv := lc) Wanted.none rfl rfl rfl hcv zq2 zO zq1 ?_; intro ad88 cap88 lv88 hv88); refine yq4 ?_; refine yq8 ?_
            refine yq29 ?_
            refine yq120 ?_
            refine yq26 ?_
            refine yq24 ?_
            refine yq27 ?_
            refine yq24 ?_
            refine yq28 ?_
            refine yq75 ?_; (exact K ⟨_, lv81, _, lv88⟩ _ _ ⟨hv81, hv88⟩ zq8 zq23)
          · (refine T.buildSlice Wanted.none rfl rfl zq11 zX zX ?_; intro b80); refine yq4 ?_
            refine TS.ways [1, 8] zK rfl (.inr ⟨zq4, zq19⟩) ⟨⟨_, rfl, ?_⟩, ⟨_, rfl, ?_⟩, trivial⟩
            · refine yq24 ?_
              refine yq82 ?_
              (refine T.pushT (lv := lw) Wanted.none rfl rfl rfl hwv zq2 zO zq1 ?_; intro ad81 cap81 lv81 hv81); refine yq4 ?_
              refine yq38 ?_
              (refine T.pushN (lv := lc) Wanted.none rfl rfl rfl hcv zq2 zO zq1 ?_; intro ad88 cap88 lv88 hv88); refine yq4 ?_; refine yq8 ?_
              refine yq29 ?_
              refine yq120 ?_
              refine yq26 ?_
              refine yq24 ?_
              refine yq27 ?_
              refine yq24 ?_
              refine yq28 ?_
              refine yq75 ?_; (exact K ⟨_, lv81, _, lv88⟩ _ _ ⟨hv81, hv88⟩ zq8 zq23)
            · (refine T.pushT (lv := lw) Wanted.none rfl rfl rfl hwv zq2 zO zq1 ?_; intro ad81 cap81 lv81 hv81); refine yq4 ?_
              refine TS.ways [1, 15] zK rfl (.inr ⟨zq4, zq19⟩) ⟨⟨_, rfl, ?_⟩, ⟨_, rfl, ?_⟩, trivial⟩
              · refine yq24 ?_
                refine yq38 ?_
                (refine T.pushN (lv := lc) Wanted.none rfl rfl rfl hcv zq2 zO zq1 ?_; intro ad88 cap88 lv88 hv88); refine yq4 ?_; refine yq8 ?_
                refine yq29 ?_
                refine yq120 ?_
                refine yq26 ?_
                refine yq24 ?_
                refine yq27 ?_
                refine yq24 ?_
                refine yq28 ?_
                refine yq75 ?_; (exact K ⟨_, lv81, _, lv88⟩ _ _ ⟨hv81, hv88⟩ zq8 zq23)
              · (refine T.pushN (lv := lc) Wanted.none rfl rfl rfl hcv zq2 zO zq1 ?_; intro ad88 cap88 lv88 hv88); refine yq4 ?_; refine yq8 ?_
                refine TS.ways [1, 18] zK rfl (.inr ⟨zq4, zq19⟩) ⟨⟨_, rfl, ?_⟩, ⟨_, rfl, ?_⟩, trivial⟩
                · refine yq24 ?_
                  refine yq29 ?_
                  refine yq120 ?_
                  refine yq26 ?_
                  refine yq24 ?_
                  refine yq27 ?_
                  refine yq24 ?_
                  refine yq28 ?_
                  refine yq75 ?_; (exact K ⟨_, lv81, _, lv88⟩ _ _ ⟨hv81, hv88⟩ zq8 zq23)
                · refine yq120 ?_
                  refine TS.ways [1] zK rfl (.inl zK) ⟨⟨_, rfl, ?_⟩, trivial⟩
                  refine yq24 ?_
                  refine yq26 ?_
                  refine yq24 ?_
                  refine yq27 ?_
                  refine yq24 ?_
                  refine yq28 ?_
                  refine yq75 ?_; (exact K ⟨_, lv81, _, lv88⟩ _ _ ⟨hv81, hv88⟩ zq8 zq23)
      rintro ⟨wv', lw', cv', lc'⟩ ⟨k1, k2⟩
      dsimp only at k1 k2 ⊢
      rw [← htw'] at k1
      rw [← htc'] at k2
      refine J10 ?_
      exact T.nextP ⟨i + 1, z - 1, t + (c : Int), x, v6, wv', lw', cv', lc'⟩ ⟨hi1, hz1, ht1, hx1, hlast, hv6, k1, k2⟩ hdl zq8 (Sel.cons (.app (.app (.take .nil))) (Sel.cons (.app (.app (.take .nil))) (Sel.app (.app .allA) (Sel.one .allA)))) rfl
    · rcases hsx with h0 | ⟨h0, hle⟩
      · have hdi : decide ((0 : Int) < ((ws.take i).length : Int)) = false := decide_eq_false zO
        refine J8 ?_; refine yq5 ?_; refine yq48 ?_; refine J6 ?_; refine yq0 ?_; refine T.callV (Wanted.guard rfl rfl zA) rfl rfl (hvl) ?_; refine T.pv (PV.not rfl) (Wanted.guard rfl rfl zA) rfl rfl ?_; refine yq90 ?_; refine yq44 ?_; refine T.skip ?_
        exact KK () _ _ trivial zq8 zq23
      · have hdi : decide ((0 : Int) < ((ws.take i).length : Int)) = true := decide_eq_true zO
        refine J8 ?_; refine yq69 ?_; refine T.pv (PV.sleq rfl rfl) (Wanted.guard rfl rfl zA) rfl rfl ?_; refine sv (PV.pickT rfl zA rfl) ?_; refine sm ?_; refine yq0 ?_; refine T.pv (PV.lenStr rfl) (Wanted.guard rfl rfl zA) rfl rfl ?_; refine T.pv (PV.gtr rfl rfl) (Wanted.guard rfl rfl zA) rfl rfl ?_; refine yq90 ?_; refine sm ?_; refine yq0 ?_; refine T.callV (Wanted.guard rfl rfl zA) rfl rfl (hvl) ?_; refine T.pv (PV.not rfl) (Wanted.guard rfl rfl zA) rfl rfl ?_; refine yq90 ?_; refine yq44 ?_; refine T.skip ?_
        exact KK () _ _ trivial zq8 zq23
  · have hd : decide ((0 : Int) < z) = false := decide_eq_false zO
    obtain rfl : i = ws.length := by omega
    rw [List.take_of_length_le (Nat.le_refl _)] at hwv ⊢
    rw [hcl, List.take_of_length_le (Nat.le_refl _)] at hcv ⊢
    refine J6 ?_; refine yq5 ?_; refine yq90 ?_; refine J3 ?_; refine T.freezeP hwv zq1 ?_
    intro H3 hle3 hsw
    refine T.freezeP hcv zq1 ?_
    intro H4 hle4 hsc
    have hsw4 : StL H4 (.slice aw cs.length cw) ws := by
      show SlR H4 1 (.slice aw cs.length cw) ws.length _
      rw [← hcl]; exact hsw.mono hle4
    have hen := lenc_fn ws cs b24 (.slice aw cs.length cw) (.slice ac cs.length cc) (.slice none 0 0) H4 hsw4 hsc hok
    refine J8 ?_; (refine T.callW (Wanted.guard rfl rfl rfl) rfl rfl hen zq1 ?_; rintro ve H5 _ _ ⟨hle5, rfl, hev⟩; rw [← hL] at hev); refine gm ?_; (refine T.callV (Wanted.guard rfl rfl rfl) rfl rfl (bytesEqual_fn _ ve _ H5 hev ((((ha.mono hle1).mono hle3).mono hle4).mono hle5) hslt) ?_); refine J5 ?_
    have hfi := finish_fn ws b24 (.slice aw cs.length cw) (.slice ac cs.length cc) H5 (hsw4.mono hle5) zO hok.short
    refine J3 ?_; (refine T.callW Wanted.none rfl rfl hfi zq1 ?_; rintro _ H6 _ _ ⟨rfl, hle6, ad9, n9, c9, rfl⟩); refine J7 ?_
    exact T.retW (Lv.finW [LxB b24 (.slice aw cs.length cw) (.slice ac cs.length cc) (.slice ad9 n9 c9)] zq4 (RV.tmp2 rfl rfl rfl) ⟨(((hle1.trans hle3).trans hle4).trans hle5).trans hle6, b24, _, _, _, _, _, rfl, rfl, (hsw4.mono hle5).mono hle6, (hsc.mono hle5).mono hle6⟩)
end Go.Proofs.YtecogbhbkccblaaGreatDoor
