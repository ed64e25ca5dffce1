/- the example: reading a tag from left to right.
   the example: values, keys, tags.
   the example: keys. -/
import Derived.Test.YtecogbhbkccblaaGreatDoorGF
set_option maxRecDepth 4000
set_option maxHeartbeats 40000000
set_option linter.all false
namespace Go.Proofs.YtecogbhbkccblaaGreatDoor
open Go.RowKit


theorem begins_fn (c : Int) (H : Hp) : Fn Tryz.prog 195 #[.int .u8 c] H (fun u _ => u = .bool (nmFst c)) := by
  refine Fn.of_T (vs := [.int .u8 c]) Tryz.func195 rfl rfl fun w => ?_
  unfold nmFst
  refine J9 ?_
  refine T.splitD (d := 5) rfl (fun h0 => ?_) (fun h0 => ?_)
  · refine J4 ?_
    refine T.splitD (d := 9) rfl (fun h1 => ?_) (fun h1 => ?_)
    · refine J13 ?_; (exact T.retF (Lv.fin (RV.tmp rfl rfl) (by congr 1; rw [Bool.eq_iff_iff]; simp <;> omega)))
    · refine J3 ?_
      refine T.splitD (d := 12) rfl (fun h2 => ?_) (fun h2 => ?_)
      · refine J5 ?_
        refine T.splitD (d := 17) rfl (fun h3 => ?_) (fun h3 => ?_)
        · refine J5 ?_; (exact T.retF (Lv.fin (RV.tmp rfl rfl) (by congr 1; rw [Bool.eq_iff_iff]; simp <;> omega)))
        · refine J5 ?_; (exact T.retF (Lv.fin (RV.tmp rfl rfl) (by congr 1; rw [Bool.eq_iff_iff]; simp <;> omega)))
      · refine J10 ?_; (exact T.retF (Lv.fin (RV.tmp rfl rfl) (by congr 1; rw [Bool.eq_iff_iff]; simp <;> omega)))
  · refine J7 ?_; refine T.setF (d := 12) rfl zO ?_; refine J10 ?_; (exact T.retF (Lv.fin (RV.tmp rfl rfl) (by congr 1; rw [Bool.eq_iff_iff]; simp <;> omega)))
theorem goesOn_fn (c : Int) (H : Hp) : Fn Tryz.prog 196 #[.int .u8 c] H (fun u _ => u = .bool (nmNxt c)) := by
  refine Fn.of_T (vs := [.int .u8 c]) Tryz.func196 rfl rfl fun w => ?_
  unfold nmNxt
  refine J7 ?_; refine T.callV Wanted.none rfl rfl (begins_fn c _) ?_; refine sm ?_
  cases nmFst c
  · refine J3 ?_
    refine T.splitD (d := 8) rfl (fun h0 => ?_) (fun h0 => ?_)
    · refine J5 ?_
      refine T.splitD (d := 13) rfl (fun h1 => ?_) (fun h1 => ?_)
      · refine J5 ?_; (exact T.retF (Lv.fin (RV.tmp rfl rfl) (by congr 1; rw [Bool.eq_iff_iff]; simp <;> omega)))
      · refine J5 ?_; (exact T.retF (Lv.fin (RV.tmp rfl rfl) (by congr 1; rw [Bool.eq_iff_iff]; simp <;> omega)))
    · refine J10 ?_; (exact T.retF (Lv.fin (RV.tmp rfl rfl) (by congr 1; rw [Bool.eq_iff_iff]; simp <;> omega)))
  · refine J13 ?_
    exact T.retF (Lv.fin (RV.tmp rfl rfl) (by simp))
/-- a function that leaves these blocks so, and yields this -/
abbrev FnS (P : Program) (f : FuncId) (args : Array Value) (H : Hp) (l0 : List (Nat × Obj)) (v : Value) (l1 : List (Nat × Obj)) : Prop := FnW P f args H l0 (fun u H' l' => u = v ∧ H' = H ∧ l' = l1)
abbrev scB (b : Nat) (s : ByteArray) (i : Nat) : Nat × Obj := (b, .cells #[.string s, .int .i64 (i : Int)] 268 (0, 0))
theorem sees_fnS (b i : Nat) (s : ByteArray) (c : Int) (d : UInt8) (H : Hp) (h : s.data.toList[i]? = some d) :
    FnS Tryz.prog 220 #[.pointer (some ⟨b, 0, none⟩), .int .u8 c] H [scB b s i] (.bool (decide ((d.toNat : Int) = c))) [scB b s i] := by
  have hi := (List.getElem?_eq_some_iff.1 h).1
  have hl : s.data.toList.length = s.size := Array.length_toList
  have h' : s.data.toList[((i : Nat) : Int).toNat]? = some d := by rw [Int.toNat_natCast]; exact h
  refine FnW.of_T (vs := [.pointer (some ⟨b, 0, none⟩), .int .u8 c]) Tryz.func220 rfl rfl fun w => ?_; refine J5 ?_; refine yq70 ?_; refine I11 ?_; refine TQ.setT (d := 15) rfl zO ?_; refine yq54 ?_; refine TQ.pv (PV.move rfl) (Wanted.guard rfl rfl rfl) rfl rfl ?_; refine TQ.pv (PV.eql rfl rfl) (Wanted.guard rfl rfl rfl) rfl rfl ?_; refine I3 ?_
  exact T.retW (Lv.finW _ (List.Sublist.refl _) (RV.tmp rfl rfl) ⟨rfl, rfl, rfl⟩)
theorem eat_fnS (b i : Nat) (s : ByteArray) (c : Int) (d : UInt8) (H : Hp) (h : s.data.toList[i]? = some d) (hd : (d.toNat : Int) = c) (hi2 : i ≤ 1000) :
    FnS Tryz.prog 219 #[.pointer (some ⟨b, 0, none⟩), .int .u8 c] H [scB b s i] (.tuple #[]) [scB b s (i + 1)] := by
  have hse := sees_fnS b i s c d H h
  rw [decide_eq_true hd] at hse
  refine FnW.of_T (vs := [.pointer (some ⟨b, 0, none⟩), .int .u8 c]) Tryz.func219 rfl rfl fun w => ?_; refine J5 ?_; (refine T.callWV Wanted.none rfl rfl hse zq1 ?_); refine J12 ?_; refine yq1 ?_; refine so ?_
  exact T.fallW (Lv.finW [scB b s (i + 1)] (by exact List.Sublist.refl _) (RV.none rfl) ⟨rfl, rfl, rfl⟩)
/-- a name from place i to n -/
structure NmAt (s : ByteArray) (i n : Nat) : Prop where
  lt : i < n
  le : n ≤ s.size
  h32 : n ≤ i + 32
  fst : ∃ c, s.data.toList[i]? = some c ∧ nmFst (c.toNat : Int) = true
  nxt : ∀ j, i ≤ j → j < n → ∃ c, s.data.toList[j]? = some c ∧ nmNxt (c.toNat : Int) = true
  end_ : ∃ c, s.data.toList[n]? = some c ∧ nmNxt (c.toNat : Int) = false
theorem name_fnS (b i n : Nat) (s : ByteArray) (H : Hp) (h : NmAt s i n) (hs : s.size ≤ 1000) :
    FnS Tryz.prog 221 #[.pointer (some ⟨b, 0, none⟩)] H [scB b s i] (.string (s.extract i n)) [scB b s n] := by
  obtain ⟨h1, h2, h3, ⟨c0, h4, h5⟩, h6, ⟨ce, h7, h8⟩⟩ := h
  have hl : s.data.toList.length = s.size := Array.length_toList
  have hne := (List.getElem?_eq_some_iff.1 h7).1
  have h4' : s.data.toList[((i : Nat) : Int).toNat]? = some c0 := by rw [Int.toNat_natCast]; exact h4
  have hb0 := begins_fn (c0.toNat : Int) H
  rw [h5] at hb0
  refine FnW.of_T (vs := [.pointer (some ⟨b, 0, none⟩)]) Tryz.func221 rfl rfl fun w => ?_; refine J23 ?_; refine T.setF (d := 15) rfl zO ?_; refine J5 ?_; refine gv (PV.indexStr rfl rfl zO zA) ?_; refine T.callV (Wanted.guard rfl rfl rfl) rfl rfl (hb0) ?_; refine J7 ?_; refine T.loopK [(3, Value.int IntKind.i64 (↑i : Int)), (0, Value.pointer (some { block := b, off := 0 }))] zq8 (γ := Nat) (fun j => i ≤ j ∧ j ≤ n) (fun _ => []) (fun j => [scB b s j]) (fun _ => H) (fun j => n - j) i ⟨Nat.le_refl _, by omega⟩ zq8 zq23 rfl ?_
  rintro j ⟨j1, j2⟩
  by_cases hj : j < n
  · obtain ⟨c, hc, hcn⟩ := h6 j j1 hj
    have hc' : s.data.toList[((j : Nat) : Int).toNat]? = some c := by rw [Int.toNat_natCast]; exact hc
    have hg := goesOn_fn (c.toNat : Int) H
    rw [hcn] at hg
    refine yq119 ?_; refine I11 ?_; refine TQ.setT (d := 38) rfl zO ?_; refine yq54 ?_; refine TQ.callV (Wanted.guard rfl rfl rfl) rfl rfl (hg) ?_; refine I2 ?_; refine J11 ?_; refine yq1 ?_; refine so ?_
    refine T.blkEnd ?_
    exact T.nextP (j + 1) ⟨by omega, by omega⟩ zO zq8 zq23 rfl
  · obtain rfl : j = n := by omega
    have h7' : s.data.toList[((j : Nat) : Int).toNat]? = some ce := by rw [Int.toNat_natCast]; exact h7
    have hg := goesOn_fn (ce.toNat : Int) H
    rw [h8] at hg
    refine yq119 ?_; refine I11 ?_; refine TQ.setT (d := 38) rfl zO ?_; refine yq54 ?_; refine TQ.callV (Wanted.guard rfl rfl rfl) rfl rfl (hg) ?_; refine I2 ?_; refine J14 ?_
    refine yq119 ?_; refine I9 ?_; refine TQ.pv (PV.sliceStr rfl rfl rfl zO) Wanted.none rfl rfl ?_; refine I2 ?_
    exact T.retW (Lv.finW _ (List.Sublist.refl _) (RV.tmp rfl rfl) ⟨rfl, rfl, rfl⟩)

end Go.Proofs.YtecogbhbkccblaaGreatDoor
namespace Go.Proofs.YtecogbhbkccblaaGreatDoor
open Go.RowKit


structure BvG where
  i : Nat
  v : Value
  lv : List (Nat × Obj)
theorem unesc_fn (s : ByteArray) (H : Hp) (hs : s.size ≤ 1000) (ha : ∀ (j : Nat) (c : UInt8), s.data.toList[j]? = some c → (c.toNat : Int) ≠ 38) :
    Fn Tryz.prog 187 #[.string s] H (fun u _ => u = .tuple #[.string s, .int .i64 0, .int .i64 0]) := by
  have hl : s.data.toList.length = s.size := Array.length_toList
  refine Fn.of_T (vs := [.string s]) Tryz.func187 rfl rfl fun w => ?_; refine J16 ?_; refine T.loopK [(0, Value.string s)] zq8 (γ := BvG) (fun g => g.i ≤ s.size ∧ Vec 5 1 g.v g.lv g.i (bytesV (s.data.toList.take g.i))) (fun g => [(6, .int .i64 (g.i : Int)), (5, g.v)]) (fun g => g.lv) (fun _ => H) (fun g => s.size - g.i) ⟨0, .slice none 0 0, []⟩ ⟨Nat.zero_le _, Vec.nil _ _⟩ zq8 zq23 rfl ?_
  rintro ⟨i, v, lv⟩ ⟨g1, g2⟩
  dsimp only at g1 g2 ⊢
  obtain ⟨ad, cap, rfl⟩ := g2.val
  by_cases hi : i < s.size
  · obtain ⟨c, hc⟩ := byteAt hi
    have hc' : s.data.toList[((i : Nat) : Int).toNat]? = some c := by rw [Int.toNat_natCast]; exact hc
    have hne := ha i c hc
    have htk : bytesV (s.data.toList.take (i + 1)) = bytesV (s.data.toList.take i) ++ [.int .u8 (c.toNat : Int)] := by
      rw [List.take_add_one, hc]; simp [bytesV]
    refine J16 ?_; refine yq106 ?_; refine J8 ?_; refine yq106 ?_; (refine T.buildSlice Wanted.none rfl rfl zq11 zX zX ?_; intro b21); (refine T.appendP (lv := lv) Wanted.none rfl rfl rfl g2 (Src.cells (m := 1) (ys := [.int .u8 (c.toNat : Int)]) (.own zq2) rfl rfl) (by intro v hv; rw [List.mem_singleton] at hv; subst hv; rfl) zO zq1 ?_; intro v22 lv22 hv22 _); refine J9 ?_
    exact T.nextP ⟨i + 1, _, lv22⟩ ⟨by dsimp only; omega, by rw [htk]; exact hv22⟩ zE zq8 zq23 rfl
  · obtain rfl : i = s.size := by omega
    rw [List.take_of_length_le zO] at g2
    refine J13 ?_; refine sv (PV.bytesStr rfl (Vec.srcE [] g2) ⟨_, _, rfl⟩) ?_; refine J4 ?_
    exact T.retF (Lv.fin (RV.tmp3 rfl rfl rfl rfl) (by simp))
/-- a value from place i to the quote at n -/
structure VlAt (s : ByteArray) (i n : Nat) : Prop where
  le : i ≤ n
  mid : ∀ j, i ≤ j → j < n → ∃ c, s.data.toList[j]? = some c ∧ (c.toNat : Int) ≠ 34 ∧ (c.toNat : Int) ≠ 60 ∧ (c.toNat : Int) ≠ 62
  end_ : s.data.toList[n]? = some 34
  amp : ∀ (j : Nat) (c : UInt8), (s.extract i n).data.toList[j]? = some c → (c.toNat : Int) ≠ 38
  ok : vvE (s.extract i n) = 0
theorem value_fnS (b i n : Nat) (s : ByteArray) (H : Hp) (h : VlAt s i n) (hs : s.size ≤ 1000) :
    FnS Tryz.prog 235 #[.pointer (some ⟨b, 0, none⟩)] H [scB b s i] (.string (s.extract i n)) [scB b s (n + 1)] := by
  obtain ⟨h1, h2, h3, h4, h5⟩ := h
  have hl : s.data.toList.length = s.size := Array.length_toList
  have hne := (List.getElem?_eq_some_iff.1 h3).1
  have hsz := vvE_size h5
  have hX : s.extract ((i : Nat) : Int).toNat (((n : Nat) : Int) + 1 - 1).toNat = s.extract i n := by
    rw [Int.toNat_natCast, show (((n : Nat) : Int) + 1 - 1).toNat = n by omega]
  have hu : Fn Tryz.prog 187 #[.string (s.extract ((i : Nat) : Int).toNat (((n : Nat) : Int) + 1 - 1).toNat)] H (fun u _ => u = .tuple #[.string (s.extract i n), .int .i64 0, .int .i64 0]) := by
    rw [hX]; exact unesc_fn _ H zO h4
  have hvv := vv_fn (s.extract i n) H
  rw [h5] at hvv
  have heat := eat_fnS b n s 34 34 H h3 rfl zO
  refine FnW.of_T (vs := [.pointer (some ⟨b, 0, none⟩)]) Tryz.func235 rfl rfl fun w => ?_; refine J14 ?_; refine T.loopK [(3, Value.int IntKind.i64 (↑i : Int)), (0, Value.pointer (some { block := b, off := 0 }))] zq8 (γ := Nat) (fun j => i ≤ j ∧ j ≤ n) (fun _ => []) (fun j => [scB b s j]) (fun _ => H) (fun j => n - j) i ⟨Nat.le_refl _, h1⟩ zq8 zq23 rfl ?_
  rintro j ⟨j1, j2⟩
  by_cases hj : j < n
  · obtain ⟨c, hc, hc1, hc2, hc3⟩ := h2 j j1 hj
    have hc' : s.data.toList[((j : Nat) : Int).toNat]? = some c := by rw [Int.toNat_natCast]; exact hc
    refine yq119 ?_; refine I11 ?_; refine TQ.setT (d := 22) rfl zO ?_; refine yq54 ?_; refine I3 ?_; refine TQ.setT (d := 34) rfl zO ?_; refine yq54 ?_; refine I3 ?_
    refine TQ.setT (d := 46) rfl zO ?_; refine yq54 ?_; refine I3 ?_; refine J11 ?_; refine yq1 ?_; refine J2 ?_
    exact T.nextP (j + 1) ⟨by omega, by omega⟩ zO zq8 zq23 rfl
  · obtain rfl : j = n := by omega
    have h3' : s.data.toList[((j : Nat) : Int).toNat]? = some 34 := by rw [Int.toNat_natCast]; exact h3
    refine yq119 ?_; refine I11 ?_; refine TQ.setT (d := 22) rfl zO ?_; refine yq54 ?_; refine I16 ?_
    refine I11 ?_; refine J5 ?_; (refine T.callWV Wanted.none rfl rfl heat zq1 ?_); refine yq119 ?_; refine I10 ?_; refine TQ.pv (PV.sliceStr rfl rfl rfl zO) Wanted.none rfl rfl ?_; refine TQ.callV Wanted.none rfl rfl (hu) ?_; refine I8 ?_; refine sq ?_
    refine J11 ?_; refine T.callV Wanted.none rfl rfl (hvv) ?_; refine J14 ?_
    exact T.retW (Lv.finW _ (List.Sublist.refl _) (RV.tmp rfl rfl) ⟨rfl, rfl, rfl⟩)

end Go.Proofs.YtecogbhbkccblaaGreatDoor
namespace Go.Proofs.YtecogbhbkccblaaGreatDoor
open Go.RowKit


theorem has_nil (nm : ByteArray) (H : Hp) : Fn Tryz.prog 234 #[.slice none 0 0, .string nm] H (fun u _ => u = .bool false) := by
  refine Fn.of_T (vs := [.slice none 0 0, .string nm]) Tryz.func234 rfl rfl fun w => ?_; refine J12 ?_; refine T.rounds 1 ?_; refine J11 ?_
  exact T.retF (Lv.fin (RV.tmp rfl rfl) rfl)
theorem sorted_nil (H : Hp) : Fn Tryz.prog 223 #[.slice none 0 0] H (fun u _ => u = .slice none 0 0) := by
  refine Fn.of_T (vs := [.slice none 0 0]) Tryz.func223 rfl rfl fun w => ?_; refine J16 ?_; refine T.rounds 1 ?_; refine J12 ?_
  exact T.retF (Lv.fin (RV.tmp rfl rfl) rfl)
theorem key_fnS (b i n m : Nat) (s : ByteArray) (H : Hp) (h1 : NmAt s i n) (h2 : s.data.toList[n]? = some 61) (h3 : s.data.toList[n + 1]? = some 34) (h4 : VlAt s (n + 2) m) (hs : s.size ≤ 1000) :
    FnS Tryz.prog 222 #[.pointer (some ⟨b, 0, none⟩), .slice none 0 0] H [scB b s i] (.agg #[.string (s.extract i n), .string (s.extract (n + 2) m)]) [scB b s (m + 1)] := by
  have hl : s.data.toList.length = s.size := Array.length_toList
  have hne := (List.getElem?_eq_some_iff.1 h3).1
  have hn := name_fnS b i n s H h1 hs
  have hh := has_nil (s.extract i n) H
  have he1 := eat_fnS b n s 61 61 H h2 rfl zO
  have he2 := eat_fnS b (n + 1) s 34 34 H h3 rfl zO
  have hv := value_fnS b (n + 2) m s H h4 hs
  refine FnW.of_T (vs := [.pointer (some ⟨b, 0, none⟩), .slice none 0 0]) Tryz.func222 rfl rfl fun w => ?_; refine zs3 ?_; refine sy fun b4 => ?_; refine J12 ?_; (refine T.callWV Wanted.none rfl rfl hn zq1 ?_); refine J7 ?_; refine T.callV Wanted.none rfl rfl (hh) ?_; refine J15 ?_; (refine T.callWV Wanted.none rfl rfl he1 zq1 ?_); refine J4 ?_; (refine T.callWV Wanted.none rfl rfl he2 zq1 ?_); refine J5 ?_; (refine T.callWV Wanted.none rfl rfl hv zq1 ?_)
  refine yq39 ?_; refine yq2 ?_; refine so ?_
  exact T.retW (Lv.finW [scB b s (m + 1)] zq4 (RV.cell rfl (by exact CV.agg rfl zq0 zX)) ⟨rfl, rfl, rfl⟩)
theorem sorted_one (a c : ByteArray) (v : Value) (H : Hp) (hv : SlR H 2 v 1 [.string a, .string c]) : Fn Tryz.prog 223 #[v] H (fun u H' => SlR H' 2 u 1 [.string a, .string c]) := by
  obtain ⟨ad, cap, rfl⟩ := hv.len
  obtain ⟨b, off, rfl, hsub⟩ := RowL.at (l := [(a, c)]) encPr_len hv (i := 0) rfl
  unfold encPr at hsub
  refine Fn.of_T (vs := [.slice (some ⟨b, off, none⟩) 1 cap]) Tryz.func223 rfl rfl fun w => ?_; refine J16 ?_; refine T.rounds 2 ?_; refine J12 ?_; refine yq20 ?_; refine sy fun b5 => ?_; refine yq2 ?_; refine J9 ?_; refine T.rounds 1 ?_; refine yq119 ?_; refine I2 ?_
  refine I12 ?_; refine J5 ?_; refine yq39 ?_; (refine T.buildSlice Wanted.none rfl rfl zq11 zX zX ?_; intro b32); (refine T.appendP (lv := []) Wanted.none rfl rfl rfl (Vec.nil 170 2) (Src.cells (m := 1) (ys := encPr (⟨#[]⟩, ⟨#[]⟩)) (.own zq2) rfl rfl) (by intro v hv; simp [encPr] at hv; rcases hv with rfl | rfl <;> rfl) zO zq1 ?_; intro v33 lv33 hv33 _; obtain ⟨b2, cap2, rfl⟩ := hv33.ptr zO; obtain ⟨_, r1, r2, tl, rfl, r3⟩ := hv33.row (by simp [encPr])); refine J3 ?_; refine T.regionT 7 zK ?_; refine I3 ?_; refine TQ.pv (PV.sliceL rfl rfl zO) Wanted.none rfl rfl ?_; refine I2 ?_; refine TQ.pv (PV.sliceLP rfl rfl zO) Wanted.none rfl rfl ?_; refine TQ.nil ?_; refine T.copyNone Wanted.none rfl rfl rfl ?_ ?_
  · show min _ _ = 0
    simp
  refine J6 ?_; refine yq2 ?_; refine J6 ?_; refine T.again ?_; refine J12 ?_
  have hvf : Vec 170 2 (.slice (some ⟨b2, 0, none⟩) (0 + 1) cap2) [(b2, .cells (.string a :: .string c :: tl).toArray 170 (0, 0))] (0 + 1) [.string a, .string c] := ⟨rfl, .inr ⟨b2, cap2, .string a :: .string c :: tl, rfl, rfl, r1, r2, by simpa [encPr] using r3, rfl⟩⟩
  refine T.freezeP (lv := [(b2, .cells (.string a :: .string c :: tl).toArray 170 (0, 0))]) hvf zq1 ?_
  intro Ha hla hsa
  exact T.retF (Lv.fin (RV.tmp rfl rfl) hsa)

end Go.Proofs.YtecogbhbkccblaaGreatDoor
