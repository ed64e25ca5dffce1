/- lexicon: what is read of a lexicon; common beginnings.
   lexicon: Encode. -/
import Derived.Test.YtecogbhbkccblaaGreatDoorHB
set_option maxRecDepth 4000
set_option maxHeartbeats 40000000
set_option linter.all false
namespace Go.Proofs.YtecogbhbkccblaaGreatDoor
open Go.RowKit


/-- the block of a lexicon -/
abbrev LxB (xb : Nat) (wv cv rv : Value) : Nat × Obj := (xb, .cells #[wv, cv, rv] 65 (0, 0))
theorem lsize_fn (ws : List ByteArray) (xb : Nat) (wv cv rv : Value) (H : Hp) (hw : StL H wv ws) : FnW Tryz.prog 12 #[.pointer (some ⟨xb, 0, none⟩)] H [LxB xb wv cv rv] (fun u H' l' => u = .int .i64 (ws.length : Int) ∧ H' = H ∧ l' = [LxB xb wv cv rv]) := by
  obtain ⟨ad, cap, rfl⟩ := hw.len
  refine FnW.of_T (vs := [.pointer (some ⟨xb, 0, none⟩)]) Tryz.func12 rfl rfl fun w => ?_; refine J13 ?_
  exact T.retW (Lv.finW _ (List.Sublist.refl _) (RV.tmp rfl rfl) ⟨rfl, rfl, rfl⟩)
theorem lcount_fn (cs : List Nat) (n c : Nat) (xb : Nat) (wv cv rv : Value) (H : Hp) (hc : NSl H .i64 cv cs) (hn : cs[n]? = some c) (hl : cs.length ≤ 10000) : FnW Tryz.prog 17 #[.pointer (some ⟨xb, 0, none⟩), .int .i64 (n : Int)] H [LxB xb wv cv rv] (fun u H' l' => u = .int .i64 (c : Int) ∧ H' = H ∧ l' = [LxB xb wv cv rv]) := by
  have hi := (List.getElem?_eq_some_iff.1 hn).1
  obtain ⟨ad, cap, rfl⟩ := hc.len
  obtain ⟨b, off, rfl, hsub⟩ := NSl.at hc hn
  have hd0 : decide ((n : Int) < 0) = false := decide_eq_false zO
  have hd1 : decide ((cs.length : Int) ≤ (n : Int)) = false := decide_eq_false zO
  refine FnW.of_T (vs := [.pointer (some ⟨xb, 0, none⟩), .int .i64 (n : Int)]) Tryz.func17 rfl rfl fun w => ?_; refine J19 ?_; refine yq6 ?_; refine J9 ?_; refine yq10 ?_; refine J2 ?_
  exact T.retW (Lv.finW _ (List.Sublist.refl _) (RV.tmp rfl rfl) ⟨rfl, rfl, rfl⟩)
theorem lenT : ∀ x : ByteArray, (encT x).length = 1 := fun _ => rfl
theorem lword_fn (ws : List ByteArray) (n : Nat) (s : ByteArray) (xb : Nat) (wv cv rv : Value) (H : Hp) (hw : StL H wv ws) (hn : ws[n]? = some s) (hl : ws.length ≤ 10000) : FnW Tryz.prog 20 #[.pointer (some ⟨xb, 0, none⟩), .int .i64 (n : Int)] H [LxB xb wv cv rv] (fun u H' l' => u = .tuple #[.string s, .bool true] ∧ H' = H ∧ l' = [LxB xb wv cv rv]) := by
  have hi := (List.getElem?_eq_some_iff.1 hn).1
  obtain ⟨ad, cap, rfl⟩ := hw.len
  obtain ⟨b, off, rfl, hsub⟩ := RowL.at lenT hw hn
  have hd0 : decide ((n : Int) < 0) = false := decide_eq_false zO
  have hd1 : decide ((ws.length : Int) ≤ (n : Int)) = false := decide_eq_false zO
  refine FnW.of_T (vs := [.pointer (some ⟨xb, 0, none⟩), .int .i64 (n : Int)]) Tryz.func20 rfl rfl fun w => ?_; refine J20 ?_; refine yq6 ?_; refine J9 ?_; refine yq10 ?_; refine J3 ?_
  exact T.retW (Lv.finW _ (List.Sublist.refl _) (RV.tmp2 rfl rfl rfl) ⟨rfl, rfl, rfl⟩)
theorem common_fn (a b : ByteArray) (H : Hp) (hla : a.data.size ≤ 100000) (hlb : b.data.size ≤ 100000) : Fn Tryz.prog 37 #[.string a, .string b] H (fun u _ => u = .int .i64 (comL a.data.toList b.data.toList : Int)) := by
  obtain ⟨A, hA⟩ : ∃ A, A = a.data.toList := ⟨_, rfl⟩
  obtain ⟨B, hB⟩ : ∃ B, B = b.data.toList := ⟨_, rfl⟩
  have hAl : a.data.size = A.length := by rw [hA, Array.length_toList]
  have hBl : b.data.size = B.length := by rw [hB, Array.length_toList]
  have hle := comL_le A B
  rw [← hA, ← hB]
  have hlt : ∀ j, j < comL A B → A[j]? = B[j]? := fun j hj => by
    have := congrArg (fun l => l[j]?) (comL_take A B)
    simpa [List.getElem?_take, hj] using this
  refine Fn.of_T (vs := [.string a, .string b]) Tryz.func37 rfl rfl fun w => ?_; refine J10 ?_; refine T.loopK [(0, Value.string a), (1, Value.string b)] zq8 (γ := Nat) (fun i => i ≤ comL A B) (fun i => [(5, .int .i64 (i : Int))]) (fun _ => []) (fun _ => H) (fun i => comL A B - i) 0 (Nat.zero_le _) zq8 zq23 rfl ?_
  intro i hi
  have hget := comL_get A B i (fun j hj => hlt j zO) zO zO
  by_cases h : i = comL A B
  · have hn := hget.1 h
    rcases Nat.lt_or_ge i A.length with h1 | h1
    · have hd1 : decide ((i : Int) < (a.data.size : Int)) = true := decide_eq_true zO
      rcases Nat.lt_or_ge i B.length with h2 | h2
      · obtain ⟨c, hc⟩ : ∃ c, A[i]? = some c := ⟨_, List.getElem?_eq_getElem h1⟩
        obtain ⟨d, hc2⟩ : ∃ c, B[i]? = some c := ⟨_, List.getElem?_eq_getElem h2⟩
        have hcd : c ≠ d := fun e => hn ⟨h1, h2, by rw [hc, hc2, e]⟩
        have hcn : c.toNat ≠ d.toNat := fun e => hcd (UInt8.toNat_inj.1 e)
        have hca : a.data.toList[(i : Int).toNat]? = some c := by rw [← hA]; exact hc
        have hcb : b.data.toList[(i : Int).toNat]? = some d := by rw [← hB]; exact hc2
        have hd2 : decide ((i : Int) < (b.data.size : Int)) = true := decide_eq_true zO
        have hd3 : decide ((c.toNat : Int) = (d.toNat : Int)) = false := decide_eq_false zO
        refine yq119 ?_; refine I5 ?_; refine yq14 ?_; refine TQ.pv (PV.lenStr rfl) (Wanted.guard rfl rfl zA) rfl rfl ?_; refine yq57 ?_; refine TQ.pv (PV.move rfl) Wanted.none rfl rfl ?_; refine yq112 ?_; refine yq112 ?_; refine TQ.pv (PV.eql rfl rfl) (Wanted.guard rfl rfl zA) rfl rfl ?_; refine TQ.pv (PV.pickT rfl zA rfl) Wanted.none rfl rfl ?_; refine TQ.nil ?_; refine yq85 ?_
        exact T.retF (Lv.fin (RV.tmp rfl rfl) (by rw [h]))
      · have hd2 : decide ((i : Int) < (b.data.size : Int)) = false := decide_eq_false zO
        refine yq119 ?_; refine I5 ?_; refine yq14 ?_; refine TQ.pv (PV.lenStr rfl) (Wanted.guard rfl rfl zA) rfl rfl ?_; refine yq57 ?_; refine TQ.pv (PV.move rfl) Wanted.none rfl rfl ?_; refine yq16 ?_; refine yq16 ?_; refine yq16 ?_; refine TQ.pass (Unwanted.guard rfl rfl zA) rfl rfl ?_; refine TQ.pv (PV.pickF rfl zA rfl) Wanted.none rfl rfl ?_; refine TQ.nil ?_; refine J7 ?_
        exact T.retF (Lv.fin (RV.tmp rfl rfl) (by rw [h]))
    · have hd1 : decide ((i : Int) < (a.data.size : Int)) = false := decide_eq_false zO
      refine yq119 ?_; refine I5 ?_; refine yq16 ?_; refine yq16 ?_; refine TQ.pv (PV.pickF rfl zA rfl) Wanted.none rfl rfl ?_; refine I10 ?_; refine J7 ?_
      exact T.retF (Lv.fin (RV.tmp rfl rfl) (by rw [h]))
  · have hy : i < A.length ∧ i < B.length ∧ A[i]? = B[i]? := Decidable.not_not.1 fun hh => h (hget.2 hh)
    obtain ⟨h1, h2, h3⟩ := hy
    obtain ⟨c, hc⟩ : ∃ c, A[i]? = some c := ⟨_, List.getElem?_eq_getElem h1⟩
    have hc2 : B[i]? = some c := by rw [← h3, hc]
    have hca : a.data.toList[(i : Int).toNat]? = some c := by rw [← hA]; exact hc
    have hcb : b.data.toList[(i : Int).toNat]? = some c := by rw [← hB]; exact hc2
    have hd1 : decide ((i : Int) < (a.data.size : Int)) = true := decide_eq_true zO
    have hd2 : decide ((i : Int) < (b.data.size : Int)) = true := decide_eq_true zO
    refine yq119 ?_; refine I5 ?_; refine yq14 ?_; refine TQ.pv (PV.lenStr rfl) (Wanted.guard rfl rfl zA) rfl rfl ?_; refine yq57 ?_; refine TQ.pv (PV.move rfl) Wanted.none rfl rfl ?_; refine yq112 ?_; refine yq112 ?_; refine TQ.pv (PV.eql rfl rfl) (Wanted.guard rfl rfl zA) rfl rfl ?_; refine TQ.pv (PV.pickT rfl zA rfl) Wanted.none rfl rfl ?_; refine TQ.nil ?_; refine J9 ?_
    exact T.nextP (i + 1) zO zO zq8 zq23 rfl

end Go.Proofs.YtecogbhbkccblaaGreatDoor
namespace Go.Proofs.YtecogbhbkccblaaGreatDoor
open Go.RowKit


theorem natL_V (l : List UInt8) : bytesV l = nV .u8 (natL l) := by
  unfold bytesV nV natL
  rw [List.map_map]; rfl
theorem one_bytesW (l : List UInt8) : ∀ v ∈ bytesV l, v.oneCell' = true := by
  intro v hv
  unfold bytesV at hv
  obtain ⟨b, _, rfl⟩ := List.mem_map.1 hv
  rfl
theorem NRow.str {t : TypeId} {v : Value} {lv : List (Nat × Obj)} {l : List Nat} {s : ByteArray} (h : Vec t 1 v lv (l.length + s.size) (nV .u8 l ++ bytesV s.data.toList)) : NRow t .u8 v lv (l ++ natL s.data.toList) := by
  rw [natL_V] at h
  have hs : s.size = (natL s.data.toList).length := by unfold natL; rw [List.length_map, Array.length_toList]; rfl
  rw [hs] at h
  exact NRow.app h
theorem ext_drop (s : ByteArray) (n : Nat) : (s.extract n s.size).data.toList = s.data.toList.drop n := by
  rw [ByteArray.data_extract, Array.toList_extract, List.extract_eq_take_drop]
  exact List.take_of_length_le (by rw [List.length_drop, Array.length_toList]; exact Nat.le_refl _)
/-- words that can be written -/
structure WsOk (ws : List ByteArray) (cs : List Nat) : Prop where
  len : ws.length = cs.length
  few : ws.length ≤ 1000
  short : ∀ w ∈ ws, w.data.size ≤ 120
  cnt : ∀ c ∈ cs, 1 ≤ c ∧ c ≤ 4096
theorem encL_len : ∀ (b : List UInt8) (l : List (ByteArray × Nat)), (∀ x ∈ l, x.1.data.size ≤ 120 ∧ x.2 ≤ 4096) → (encL b l).length ≤ 129 * l.length
  | _, [], _ => by simp [encL]
  | b, (w, c) :: l, h => by
    have ih := encL_len w.data.toList l fun x hx => h x (List.mem_cons_of_mem _ hx)
    obtain ⟨h1, h2⟩ := h (w, c) List.mem_cons_self
    dsimp only at h1 h2
    have hc := comL_le b w.data.toList
    have hl : w.data.toList.length ≤ 120 := by rw [Array.length_toList]; exact h1
    have e1 := putV_len 2 (show comL b w.data.toList < 128 ^ 3 by omega)
    have e2 := putV_len 2 (show w.data.toList.length - comL b w.data.toList < 128 ^ 3 by omega)
    have e3 := putV_len 2 (show c - 1 < 128 ^ 3 by omega)
    have e4 : (natL (w.data.toList.drop (comL b w.data.toList))).length ≤ 120 := by unfold natL; rw [List.length_map, List.length_drop]; omega
    unfold encL
    simp only [List.length_append, List.length_cons] at ih ⊢
    omega
theorem natL_lt {l : List UInt8} : ∀ c ∈ natL l, c < 256 := by
  intro c hc
  unfold natL at hc
  obtain ⟨u, _, rfl⟩ := List.mem_map.1 hc
  exact u.toNat_lt
theorem encL_lt : ∀ (b : List UInt8) (l : List (ByteArray × Nat)), ∀ c ∈ encL b l, c < 256
  | _, [], c, h => by simp [encL] at h
  | b, (w, n) :: l, c, h => by
    unfold encL at h
    rcases List.mem_append.1 h with h | h
    · exact putV_lt _ h
    rcases List.mem_append.1 h with h | h
    · exact putV_lt _ h
    rcases List.mem_append.1 h with h | h
    · exact natL_lt c h
    rcases List.mem_append.1 h with h | h
    · exact putV_lt _ h
    · exact encL_lt _ l c h
theorem encX_lt (l : List (ByteArray × Nat)) : ∀ c ∈ encX l, c < 256 := by
  intro c h
  unfold encX at h
  rcases List.mem_append.1 h with h | h
  · exact putV_lt _ h
  · exact encL_lt _ _ c h
theorem WsOk.zip {ws : List ByteArray} {cs : List Nat} (h : WsOk ws cs) : ∀ x ∈ ws.zip cs, x.1.data.size ≤ 120 ∧ x.2 ≤ 4096 := fun x hx => by
  have := List.of_mem_zip (a := x.1) (b := x.2) hx
  exact ⟨h.short _ this.1, (h.cnt _ this.2).2⟩
theorem encX_len {ws : List ByteArray} {cs : List Nat} (h : WsOk ws cs) : (encX (ws.zip cs)).length ≤ 130000 := by
  have h1 := encL_len [] _ h.zip
  have hz : (ws.zip cs).length ≤ 1000 := by rw [List.length_zip, ← h.len, Nat.min_self]; exact h.few
  have h2 := putV_len 2 (show (ws.zip cs).length < 128 ^ 3 by omega)
  unfold encX
  rw [List.length_append]
  omega
structure LeG2 where
  i : Nat
  s : ByteArray
  v : Value
  lv : List (Nat × Obj)
theorem lenc_fn (ws : List ByteArray) (cs : List Nat) (xb : Nat) (wv cv rv : Value) (H : Hp) (hw : StL H wv ws) (hc : NSl H .i64 cv cs) (hok : WsOk ws cs) : FnW Tryz.prog 9 #[.pointer (some ⟨xb, 0, none⟩)] H [LxB xb wv cv rv] (fun u H' l' => H.le H' ∧ l' = [LxB xb wv cv rv] ∧ NSl H' .u8 u (sealC (encX (ws.zip cs)))) := by
  have hwl := hok.few
  have hcl := hok.len
  have hXl := encX_len hok
  have hXt := encX_lt (ws.zip cs)
  obtain ⟨L, hL⟩ : ∃ L, L = ws.zip cs := ⟨_, rfl⟩
  have hLl : L.length = ws.length := by rw [hL, List.length_zip, ← hcl, Nat.min_self]
  have hLz := hok.zip
  rw [← hL] at hXl hXt hLz ⊢
  obtain ⟨aw, cw, rfl⟩ := hw.len
  obtain ⟨ac, cc, rfl⟩ := hc.len
  have hp1 := putV_len 2 (show ws.length < 128 ^ 3 by omega)
  refine FnW.of_T (vs := [.pointer (some ⟨xb, 0, none⟩)]) Tryz.func9 rfl rfl fun w => ?_; refine J11 ?_; refine yq42 ?_; (refine T.callW Wanted.none rfl rfl (putUvarint_fn (.slice none 0 0) [] [] ws.length _ (NRow.nil _ _) zO zD) Pick.nil ?_; rintro v14 H14 le14 _ ⟨hH14, he14⟩; have hH14 := hH14.symm; subst hH14; rw [List.nil_append] at he14; obtain ⟨ad14, cap14, rfl⟩ := he14.val); refine J17 ?_
  obtain ⟨R0, hR0⟩ : ∃ R, R = putV ws.length := ⟨_, rfl⟩
  rw [← hR0] at hp1 he14 ⊢
  refine T.loopK [(19, Value.int IntKind.i64 (↑ws.length : Int)), (18, Value.slice aw ws.length cw), (0, Value.pointer (some { block := xb, off := 0 }))] zq8 (γ := LeG2) (fun g => g.i ≤ ws.length ∧ g.s.data.size ≤ 120 ∧ g.s.data.toList = lastL [] (L.take g.i) ∧ NRow 5 .u8 g.v g.lv (R0 ++ encL [] (L.take g.i))) (fun g => [(20, .int .i64 (g.i : Int)), (4, .string g.s), (3, g.v)]) (fun g => LxB xb (.slice aw ws.length cw) (.slice ac cs.length cc) rv :: g.lv) (fun _ => H) (fun g => ws.length - g.i) ⟨0, ⟨#[]⟩, _, le14⟩ ⟨Nat.zero_le _, Nat.zero_le _, rfl, by dsimp only; rw [List.take_zero, show encL [] [] = [] from rfl, List.append_nil]; exact he14⟩ zq8 zq23 rfl ?_
  rintro ⟨i, s, v, lv⟩ ⟨hi, hss, hsl, hv⟩
  dsimp only at hi hss hsl hv ⊢
  obtain ⟨R, hR⟩ : ∃ R, R = R0 ++ encL [] (L.take i) := ⟨_, rfl⟩
  have hRl : R.length ≤ 3 + 129 * i := by
    have := encL_len [] (L.take i) fun x hx => hLz x (List.mem_of_mem_take hx)
    rw [List.length_take] at this
    rw [hR, List.length_append]; omega
  rw [← hR] at hv
  obtain ⟨av, cv, rfl⟩ := hv.val
  by_cases h : i < ws.length
  · obtain ⟨x, hx⟩ : ∃ x, ws[i]? = some x := ⟨_, List.getElem?_eq_getElem h⟩
    obtain ⟨c, hcx⟩ : ∃ c, cs[i]? = some c := ⟨_, List.getElem?_eq_getElem zO⟩
    have hLx : L[i]? = some (x, c) := by rw [hL, List.getElem?_zip_eq_some]; exact ⟨hx, hcx⟩
    have hx1 := hok.short x (List.mem_of_getElem? hx)
    have hc1 := hok.cnt c (List.mem_of_getElem? hcx)
    have hxt : x.data.toList.length = x.data.size := Array.length_toList
    have hxs : x.size = x.data.size := rfl
    have hcm := comL_le s.data.toList x.data.toList
    have hcom := common_fn s x H zO zO
    have hstep : R0 ++ encL [] (L.take (i + 1)) = R ++ (putV (comL s.data.toList x.data.toList) ++ (putV (x.data.toList.length - comL s.data.toList x.data.toList) ++ (natL (x.data.toList.drop (comL s.data.toList x.data.toList)) ++ putV (c - 1)))) := by
      rw [List.take_add_one, hLx, Option.toList_some, encL_app, ← List.append_assoc, ← hR, ← hsl]
      congr 1
      show encL s.data.toList [(x, c)] = _
      simp only [encL, List.append_nil]
    have hlast : x.data.toList = lastL [] (L.take (i + 1)) := by
      rw [List.take_add_one, hLx, Option.toList_some, lastL_snoc]
    obtain ⟨n, hn⟩ : ∃ n, n = comL s.data.toList x.data.toList := ⟨_, rfl⟩
    rw [← hn] at hcm hcom hstep
    have hED := ext_drop x n
    obtain ⟨S, hS⟩ : ∃ S, S = x.extract n x.size := ⟨_, rfl⟩
    rw [← hS] at hED
    have hSs : S.size = x.data.size - n := by
      have := congrArg List.length hED
      rw [List.length_drop, hxt, Array.length_toList] at this
      exact this
    rw [← hED] at hstep
    have hnl : (natL S.data.toList).length ≤ 120 := by
      unfold natL
      rw [List.length_map, hED, List.length_drop]; omega
    have q1 := putV_len 2 (show n < 128 ^ 3 by omega)
    have q2 := putV_len 2 (show x.data.toList.length - n < 128 ^ 3 by omega)
    have q3 := putV_len 2 (show c - 1 < 128 ^ 3 by omega)
    obtain ⟨b1, off1, rfl, hsub1⟩ := RowL.at lenT hw hx
    obtain ⟨b2, off2, rfl, hsub2⟩ := NSl.at hc hcx
    have hu2 : ∀ v lv, NRow 5 .u8 v lv (R ++ putV n) → FnW Tryz.prog 36 #[v, .int .u64 ((x.size : Int) - (n : Int))] H lv (fun u H' l' => H' = H ∧ NRow 5 .u8 u l' (R ++ putV n ++ putV (x.data.toList.length - n))) := fun v lv hv => by
      rw [show (x.size : Int) - (n : Int) = ((x.data.toList.length - n : Nat) : Int) by omega]
      exact putUvarint_fn v lv _ (x.data.toList.length - n) H hv zO (by rw [List.length_append]; omega)
    have hu3 : ∀ v lv, NRow 5 .u8 v lv (R ++ putV n ++ putV (x.data.toList.length - n) ++ natL S.data.toList) → FnW Tryz.prog 36 #[v, .int .u64 ((c : Int) - 1)] H lv (fun u H' l' => H' = H ∧ NRow 5 .u8 u l' (R ++ putV n ++ putV (x.data.toList.length - n) ++ natL S.data.toList ++ putV (c - 1))) := fun v lv hv => by
      rw [show (c : Int) - 1 = ((c - 1 : Nat) : Int) by omega]
      exact putUvarint_fn v lv _ (c - 1) H hv zO (by simp only [List.length_append]; omega)
    have hd : decide ((i : Int) < (ws.length : Int)) = true := decide_eq_true zO
    refine yq98 ?_; refine J7 ?_; refine T.callV Wanted.none rfl rfl (hcom) ?_; refine J6 ?_; refine yq42 ?_; (refine T.callW Wanted.none rfl rfl (putUvarint_fn _ lv _ n _ hv zO zO) zq1 ?_; rintro v31 H31 le31 _ ⟨hH31, he31⟩; have hH31 := hH31.symm; subst hH31; obtain ⟨ad31, cap31, rfl⟩ := he31.val); refine J9 ?_; refine yq42 ?_; (refine T.callW Wanted.none rfl rfl (hu2 _ _ he31) zq1 ?_; rintro v38 H38 le38 _ ⟨hH38, he38⟩; have hH38 := hH38.symm; subst hH38; obtain ⟨ad38, cap38, rfl⟩ := he38.val); refine J7 ?_; refine sv (PV.sliceStrL rfl rfl zO) ?_
    (rw [show x.extract (n : Int).toNat x.size = S from hS.symm]; refine T.appendP (lv := le38) Wanted.none rfl rfl rfl he38 Src.str (one_bytesW _) (by simp only [List.length_append]; omega) zq1 ?_; intro v43 lv43 hv43 _; have hv43 := NRow.str hv43; obtain ⟨ad43, cap43, rfl⟩ := hv43.val)
    refine J11 ?_; refine yq10 ?_; refine sv (PV.sub rfl rfl zO) ?_; refine yq42 ?_; (refine T.callW Wanted.none rfl rfl (hu3 _ _ hv43) zq1 ?_; rintro v54 H54 le54 _ ⟨hH54, he54⟩; have hH54 := hH54.symm; subst hH54; obtain ⟨ad54, cap54, rfl⟩ := he54.val); refine J11 ?_
    exact T.nextP ⟨i + 1, x, _, le54⟩ ⟨by dsimp only; omega, hx1, hlast, by dsimp only; rw [hstep]; simp only [← List.append_assoc]; exact he54⟩ zE zq8 zq23 rfl
  · have hd : decide ((i : Int) < (ws.length : Int)) = false := decide_eq_false zO
    obtain rfl : i = ws.length := by omega
    rw [List.take_of_length_le zO, hR0, ← hLl, show putV L.length ++ encL [] L = encX L from rfl] at hR
    rw [hR] at hv ⊢
    refine yq44 ?_; refine T.exit rfl ?_; refine T.freezeP hv zq1 ?_
    intro H2 hle2 hs2
    refine J3 ?_; (refine T.call Wanted.none rfl rfl (seal_fn _ _ _ hs2 hXt zO) ?_; rintro v58 H3 hle3 hv58; obtain ⟨ad58, cap58, rfl⟩ := hv58.len); refine J2 ?_
    exact T.retW (Lv.finW [LxB xb (.slice aw ws.length cw) (.slice ac cs.length cc) rv] zq4 (RV.tmp rfl rfl) ⟨hle2.trans hle3, rfl, hv58⟩)

end Go.Proofs.YtecogbhbkccblaaGreatDoor
