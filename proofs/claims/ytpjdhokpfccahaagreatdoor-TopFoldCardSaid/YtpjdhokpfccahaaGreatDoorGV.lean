/- the leaves of an expression: links, what may follow.
   the leaves of an expression that stands for a text.
   the table of an expression that stands for a text.
   the table of an expression that stands for a text, whole; which leaves may follow. -/
import Derived.Test.YtpjdhokpfccahaaGreatDoorGU
namespace Go.Proofs.YtpjdhokpfccahaaGreatDoor
open Go.RowKit

def u64V (l : List Nat) : List Value := l.map fun n : Nat => .int .u64 ((n : Nat) : Int)
theorem u64V_len (l : List Nat) : (u64V l).length = l.length := by simp [u64V]
theorem u64V_at {l : List Nat} {i n : Nat} (h : l[i]? = some n) : (u64V l)[i]? = some (.int .u64 (n : Int)) := by simp [u64V, h]
theorem u64V_set {l : List Nat} {i n : Nat} : (u64V l).set i (.int .u64 (n : Int)) = u64V (l.set i n) := by simp [u64V, List.map_set]
theorem bit_of (x i : Nat) : (x >>> i) &&& 1 = if x.testBit i = true then 1 else 0 := by
  rw [Nat.testBit]
  rw [Nat.and_comm 1]
  have : (x >>> i) &&& 1 = (x >>> i) % 2 := Nat.and_one_is_mod _
  rw [this]
  rcases Nat.mod_two_eq_zero_or_one (x >>> i) with h | h
  · simp [h]
  · simp [h]
theorem shr_bit {x i : Nat} (hx : x < 2 ^ 64) : bits .and .u64 (((x >>> i : Nat) : Int)) 1 = if x.testBit i = true then 1 else 0 := by
  have h1 : x >>> i < 2 ^ 64 := by rw [Nat.shiftRight_eq_div_pow]; exact Nat.lt_of_le_of_lt (Nat.div_le_self _ _) hx
  have := band_nat (k := .u64) (a := x >>> i) (b := 1) h1 (by decide)
  rw [show ((1 : Nat) : Int) = 1 from rfl] at this
  rw [this, bit_of]
  split <;> rfl
theorem shr_u64 {x i : Nat} (hx : x < 2 ^ 64) : shrI .u64 (x : Int) (i : Int) = ((x >>> i : Nat) : Int) := shr_nat (k := .u64) hx
theorem or_u64 {a b : Nat} (ha : a < 2 ^ 64) (hb : b < 2 ^ 64) : bits .or .u64 (a : Int) (b : Int) = ((a ||| b : Nat) : Int) := bor_nat (k := .u64) ha hb
/-- each leaf of a set has more that may follow it -/
def lkF (frm to : Nat) (i f : Nat) : Nat := if frm.testBit i = true then f ||| to else f
def lkN (frm to : Nat) (fl : List Nat) (n : Nat) : List Nat := (fl.take n).mapIdx (lkF frm to) ++ fl.drop n
theorem lkN_at {frm to : Nat} {fl : List Nat} {n : Nat} {f : Nat} (h : fl[n]? = some f) : (lkN frm to fl n)[n]? = some f := by
  have hn := (List.getElem?_eq_some_iff.1 h).1
  unfold lkN
  rw [List.getElem?_append_right (by simp; omega)]
  simp only [List.length_mapIdx, List.length_take, Nat.min_eq_left (Nat.le_of_lt hn), Nat.sub_self]
  rw [List.getElem?_drop, Nat.add_zero]; exact h
theorem lkN_succ {frm to : Nat} {fl : List Nat} {n : Nat} {f : Nat} (h : fl[n]? = some f) : lkN frm to fl (n + 1) = (lkN frm to fl n).set n (lkF frm to n f) := by
  have hn := (List.getElem?_eq_some_iff.1 h).1
  unfold lkN
  have hl : ((fl.take n).mapIdx (lkF frm to)).length = n := by simp; omega
  rw [List.take_add_one, h, Option.toList_some, List.mapIdx_append, List.set_append_right _ _ (by omega), hl, Nat.sub_self, List.drop_eq_getElem_cons hn]
  have ht : (fl.take n).length = n := by simp; omega
  simp [Nat.min_eq_left (Nat.le_of_lt hn)]
  rw [List.drop_eq_getElem_cons hn]; rfl
theorem lkN_len (frm to : Nat) (fl : List Nat) (n : Nat) : (lkN frm to fl n).length = fl.length := by
  unfold lkN
  simp
  omega
theorem lkN_zero (frm to : Nat) (fl : List Nat) : lkN frm to fl 0 = fl := by simp [lkN]
theorem set_same {α : Type} {l : List α} {i : Nat} {x : α} (h : l[i]? = some x) : l.set i x = l := by
  obtain ⟨h1, h2⟩ := List.getElem?_eq_some_iff.1 h
  rw [← h2]; exact List.set_getElem_self h1
/-- the table of leaves, under way -/
abbrev tB (b : Nat) (vL : Value) (f la : Nat) (vF : Value) (nu : Bool) : Nat × Obj := (b, .cells #[vL, .int .u64 (f : Int), .int .u64 (la : Int), vF, .bool nu] 204 (0, 0))
structure LkG where
  i : Nat
  lv : List (Nat × Obj)
set_option maxHeartbeats 2000000 in
theorem link_fnW (b frm to f la : Nat) (nu : Bool) (adL : Option Addr) (nL cL : Nat) (vF : Value) (lvF : List (Nat × Obj)) (fl : List Nat) (H : Hp) (hv : Vec 199 1 vF lvF fl.length (u64V fl)) (hl : fl.length ≤ 60) (hf : frm < 2 ^ 64) (ht : to < 2 ^ 64) (hfl : ∀ x ∈ fl, x < 2 ^ 64) :
    FnW Tryz.prog 192 #[.pointer (some ⟨b, 0, none⟩), .int .u64 (frm : Int), .int .u64 (to : Int)] H (lvF ++ [tB b (.slice adL nL cL) f la vF nu]) (fun u H' l' => H' = H ∧ ∃ lvF', Vec 199 1 vF lvF' fl.length (u64V (lkN frm to fl fl.length)) ∧ l' = lvF' ++ [tB b (.slice adL nL cL) f la vF nu]) := by
  obtain ⟨ad, cap, rfl⟩ := hv.val
  refine FnW.of_T (vs := [.pointer (some ⟨b, 0, none⟩), .int .u64 (frm : Int), .int .u64 (to : Int)]) Tryz.func192 rfl rfl fun _ => ?_; refine zs3 ?_; refine sm ?_; refine sv (PV.nilCheck rfl) ?_; refine sf ?_; refine sl ?_; refine sv (PV.lenSl rfl) ?_; refine sm ?_; refine so ?_; refine T.block ?_; refine T.loopK [(11, Value.int IntKind.i64 (↑fl.length : Int)), (0, Value.pointer (some { block := b, off := 0 })), (1, Value.int IntKind.u64 (↑frm : Int)), (2, Value.int IntKind.u64 (↑to : Int))] zq8 (γ := LkG) (fun g => g.i ≤ fl.length ∧ Vec 199 1 (.slice ad fl.length cap) g.lv fl.length (u64V (lkN frm to fl g.i))) (fun g => [(12, .int .i64 (g.i : Int))]) (fun g => g.lv ++ [tB b (.slice adL nL cL) f la (.slice ad fl.length cap) nu]) (fun _ => H) (fun g => fl.length - g.i) ⟨0, lvF⟩ ⟨Nat.zero_le _, by rw [lkN_zero]; exact hv⟩ zq8 (by repeat (first | exact Sel.refl _ | exact Sel.nil | (refine Sel.cons zq1 ?_) | (refine Sel.app zq1 ?_) | exact Sel.one zq1)) rfl ?_
  rintro ⟨i, lv⟩ ⟨g1, g2⟩
  dsimp only at g1 g2 ⊢
  by_cases hi : i < fl.length
  · obtain ⟨x, hx⟩ : ∃ x, fl[i]? = some x := ⟨_, List.getElem?_eq_getElem hi⟩
    have hxl := hfl x (List.mem_of_getElem? hx)
    have hsh := shr_u64 (i := i) hf
    have hbt := shr_bit (i := i) hf
    by_cases hb : frm.testBit i = true
    · rw [if_pos hb] at hbt
      obtain ⟨bv, cv, hve⟩ := g2.ptr (by omega)
      injection hve with e1 e2 e3
      subst e1 e3
      have hld : (u64V (lkN frm to fl i))[0 + ((i : Nat) : Int).toNat * 1]? = some (.int .u64 (x : Int)) := by
        rw [Int.toNat_natCast, Nat.mul_one, Nat.zero_add]; exact u64V_at (lkN_at (frm := frm) (to := to) hx)
      have hor := or_u64 hxl ht
      have hlen : (u64V (lkN frm to fl i)).length = fl.length := by rw [u64V_len, lkN_len]
      refine zs3 ?_; refine sv (PV.lss rfl rfl) ?_; refine so ?_; refine sq ?_; refine sC rfl (by omega) ?_; refine T.skip ?_; refine sq ?_; refine T.block ?_; refine zs3 ?_; refine sm ?_; refine sa ?_; refine zs1 ?_; refine sm ?_; refine sm ?_; refine sv (PV.shrR rfl rfl (by assumption) (by omega)) ?_; refine sv (PV.bandR rfl rfl (by assumption)) ?_; refine sv (PV.eql rfl rfl) ?_; refine so ?_; refine T.condT rfl rfl ?_; refine sr ?_; refine sm ?_; refine sv (PV.nilCheck rfl) ?_; refine sf ?_; refine sl ?_; refine sm ?_; refine sv (PV.indexAddr rfl rfl (by omega)) ?_; refine sv (PV.loadVec rfl (by assumption) zq4 (by assumption)) ?_; refine sm ?_; refine sv (PV.borR rfl rfl (by assumption)) ?_; refine sv (PV.indexAddr rfl rfl (by omega)) ?_; (refine T.storeVecP (lv := lv) Wanted.none rfl rfl rfl g2 (by rw [hlen, Int.toNat_natCast]; omega) zq1 ?_; intro lvh hvh); refine so ?_; refine T.blkEnd ?_; refine sr ?_; refine sv (PV.add rfl rfl (by omega)) ?_; refine sm ?_; refine so ?_
      refine T.nextP ⟨i + 1, lvh⟩ ⟨by dsimp only; omega, ?_⟩ (by dsimp only; omega) zq8 (by repeat (first | exact Sel.refl _ | exact Sel.nil | (refine Sel.cons zq1 ?_) | (refine Sel.app zq1 ?_) | exact Sel.one zq1)) rfl
      dsimp only
      rw [lkN_succ hx, show lkF frm to i x = x ||| to by unfold lkF; rw [if_pos hb]]
      rw [Int.toNat_natCast, Nat.mul_one, Nat.zero_add, u64V_set] at hvh
      exact hvh
    · rw [if_neg hb] at hbt
      refine zs3 ?_; refine sv (PV.lss rfl rfl) ?_; refine so ?_; refine sq ?_; refine sC rfl (by omega) ?_; refine T.skip ?_; refine sq ?_; refine T.block ?_; refine zs3 ?_; refine sm ?_; refine sa ?_; refine zs1 ?_; refine sm ?_; refine sm ?_; refine sv (PV.shrR rfl rfl (by assumption) (by omega)) ?_; refine sv (PV.bandR rfl rfl (by assumption)) ?_; refine sv (PV.eql rfl rfl) ?_; refine so ?_; refine T.condF rfl rfl ?_; refine T.skip ?_; refine T.blkEnd ?_; refine sr ?_; refine sv (PV.add rfl rfl (by omega)) ?_; refine sm ?_; refine so ?_
      refine T.nextP ⟨i + 1, lv⟩ ⟨by dsimp only; omega, ?_⟩ (by dsimp only; omega) zq8 (by repeat (first | exact Sel.refl _ | exact Sel.nil | (refine Sel.cons zq1 ?_) | (refine Sel.app zq1 ?_) | exact Sel.one zq1)) rfl
      dsimp only
      rw [lkN_succ hx, show lkF frm to i x = x by unfold lkF; rw [if_neg hb], set_same (lkN_at hx)]
      exact g2
  · obtain rfl : i = fl.length := by omega
    refine zs3 ?_; refine sv (PV.lss rfl rfl) ?_; refine so ?_; refine sq ?_; refine sd rfl (by omega) ?_; refine T.exit rfl ?_
    exact T.fallW (Lv.finW (lv ++ [tB b (.slice adL nL cL) f la (.slice ad fl.length cap) nu]) (by exact List.Sublist.refl _) (RV.none rfl) ⟨rfl, _, g2, rfl⟩)
end Go.Proofs.YtpjdhokpfccahaaGreatDoor
namespace Go.Proofs.YtpjdhokpfccahaaGreatDoor
open Go.RowKit

abbrev ptV (f la : Nat) (nu : Bool) : Value := .agg #[.int .u64 (f : Int), .int .u64 (la : Int), .bool nu]
theorem pow_lt {k : Nat} (h : k < 64) : 2 ^ k < 2 ^ 64 := Nat.pow_lt_pow_right (by decide) h
theorem shl_one {k : Nat} (h : k < 64) : shlI .u64 1 (k : Int) = ((2 ^ k : Nat) : Int) := by
  have := shl_nat (k := .u64) (a := 1) (n := k) (by show k ≤ 64; omega) (by rw [Nat.one_mul]; exact pow_lt h)
  rw [Nat.shiftLeft_eq, Nat.one_mul] at this
  exact this
def lvsV (ks : List Nat) : List Value := ks.map rg1
theorem lvsV_len (ks : List Nat) : (lvsV ks).length = ks.length := by simp [lvsV]
set_option maxHeartbeats 2000000 in
theorem build1_fnW (b f la k : Nat) (nu : Bool) (vL vF : Value) (lvL lvF : List (Nat × Obj)) (ks fl : List Nat) (H : Hp) (hL : Vec 34 1 vL lvL ks.length (lvsV ks)) (hF : Vec 199 1 vF lvF fl.length (u64V fl)) (hl : ks.length ≤ 60) (hfl : fl.length = ks.length) :
    FnW Tryz.prog 172 #[.pointer (some ⟨b, 0, none⟩), rxV 1 (rg1 k) nlS] H (lvL ++ (lvF ++ [tB b vL f la vF nu])) (fun u H' l' => u = ptV (2 ^ ks.length) (2 ^ ks.length) false ∧ H' = H ∧ ∃ vL' lvL' vF' lvF', Vec 34 1 vL' lvL' (ks.length + 1) (lvsV (ks ++ [k])) ∧ Vec 199 1 vF' lvF' (fl.length + 1) (u64V (fl ++ [0])) ∧ l' = lvL' ++ (lvF' ++ [tB b vL' f la vF' nu])) := by
  obtain ⟨adL, cL, rfl⟩ := hL.val
  obtain ⟨adF, cF, rfl⟩ := hF.val
  have hsh := shl_one (k := ks.length) (by omega)
  refine FnW.of_T (vs := [.pointer (some ⟨b, 0, none⟩), rxV 1 (rg1 k) nlS]) Tryz.func172 rfl rfl fun _ => ?_; refine zs3 ?_; (refine T.box Wanted.none rfl rfl zq15 ?_; intro b3); refine sy fun b4 => ?_; refine so ?_; refine sq ?_; refine zs3 ?_; refine sf ?_; refine sl ?_; refine so ?_; refine T.block ?_; refine zs3 ?_; refine sv (PV.eql rfl rfl) ?_; refine sa ?_; refine so ?_; refine T.condT rfl rfl ?_; refine zs3 ?_; refine sm ?_; refine sv (PV.nilCheck rfl) ?_; refine sf ?_; refine sl ?_; refine sv (PV.lenSl rfl) ?_; refine sv (PV.shlR rfl rfl (by assumption) (by omega)) ?_; refine sa ?_; refine so ?_
  (repeat refine sq ?_)
  refine T.regionS [(b3, .cells #[.int .i64 1, .int .i64 0, .int .i64 0, rg1 k, nlS] 37 (0, 0)), tB b (.slice adL ks.length cL) f la (.slice adF fl.length cF) nu] 11 (by kernel_rfl) ?_; refine TS.take 0 rfl (by kernel_rfl) (by kernel_rfl) (by kernel_rfl) (by kernel_rfl) (PV.move rfl) Wanted.none rfl rfl ?_; refine TS.take 1 rfl (by kernel_rfl) (by kernel_rfl) (by kernel_rfl) (by kernel_rfl) (PV.move rfl) Wanted.none rfl rfl ?_; refine TS.take 2 rfl (by kernel_rfl) (by kernel_rfl) (by kernel_rfl) (by kernel_rfl) (PV.nilCheck rfl) Wanted.none rfl rfl ?_; refine TS.take 3 rfl (by kernel_rfl) (by kernel_rfl) (by kernel_rfl) (by kernel_rfl) (PV.fieldAddr rfl) Wanted.none rfl rfl ?_; refine TS.take 4 rfl (by kernel_rfl) (by kernel_rfl) (by kernel_rfl) (by kernel_rfl) (PV.load1 rfl zq0 rfl) Wanted.none rfl rfl ?_; refine TS.take 5 rfl (by kernel_rfl) (by kernel_rfl) (by kernel_rfl) (by kernel_rfl) (PV.fieldAddr rfl) Wanted.none rfl rfl ?_; refine TS.take 6 rfl (by kernel_rfl) (by kernel_rfl) (by kernel_rfl) (by kernel_rfl) (PV.load1 rfl zq0 rfl) Wanted.none rfl rfl ?_
  refine TS.ways [7] (by kernel_rfl) rfl zq20 ⟨⟨_, rfl, ?_⟩, trivial⟩
  (refine T.buildSlice Wanted.none rfl rfl zq11 (by exact rfl) (by exact rfl) ?_; intro b30); refine so ?_; refine TS.back ?_
  refine TS.ways [8] (by kernel_rfl) rfl zq20 ⟨⟨_, rfl, ?_⟩, trivial⟩
  (refine T.appendP (lv := lvL) Wanted.none rfl rfl rfl hL (Src.cells (m := 1) (ys := [rg1 k]) (.own zq2) rfl rfl) (by intro v hv; rw [List.mem_singleton] at hv; subst hv; rfl) (by omega) zq1 ?_; intro v31 lv31 hv31 _; obtain ⟨ad31, cap31, rfl⟩ := hv31.val); refine so ?_; refine TS.back ?_; refine TS.takeT 9 rfl (by kernel_rfl) (by kernel_rfl) (by kernel_rfl) (by kernel_rfl) (PV.nilCheck rfl) Wanted.none rfl rfl ?_; refine TS.take 10 rfl (by kernel_rfl) (by kernel_rfl) (by kernel_rfl) (by kernel_rfl) (PV.fieldAddr rfl) Wanted.none rfl rfl ?_
  refine TS.ways [11] (by kernel_rfl) rfl zq20 ⟨⟨_, rfl, ?_⟩, trivial⟩
  refine T.store1 Wanted.none rfl rfl rfl zq14 zq13 ?_; refine so ?_; refine TS.back ?_; refine TS.done (by kernel_rfl) (by kernel_rfl) ?_; refine zs3 ?_; refine sm ?_; refine sm ?_; refine sv (PV.nilCheck rfl) ?_; refine sf ?_; refine sl ?_; (refine T.buildSlice Wanted.none rfl rfl zq11 (by exact rfl) (by exact rfl) ?_; intro b39); (refine T.appendP (lv := lvF) Wanted.none rfl rfl rfl hF (Src.cells (m := 1) (ys := [.int .u64 0]) (.own zq2) rfl rfl) (by intro v hv; rw [List.mem_singleton] at hv; subst hv; rfl) (by omega) zq1 ?_; intro v40 lv40 hv40 _; obtain ⟨ad40, cap40, rfl⟩ := hv40.val); refine sv (PV.nilCheck rfl) ?_; refine sf ?_; refine T.store1 Wanted.none rfl rfl rfl zq14 zq13 ?_; refine zs1 ?_; refine sm ?_; refine sm ?_; refine sv (PV.build rfl zq12) ?_; refine T.storeA Wanted.none rfl rfl zq8 (by exact rfl) zq14 zq13 ?_; refine so ?_; refine T.front lv31 zq1 ?_
  refine T.retW (Lv.finW (lv31 ++ (lv40 ++ [tB b (.slice ad31 (ks.length + 1) cap31) f la (.slice ad40 (fl.length + 1) cap40) nu])) zq4 (RV.cell rfl (by exact CV.agg rfl zq0 (by exact rfl))) ⟨rfl, rfl, _, lv31, _, lv40, ?_, ?_, rfl⟩)
  · rw [show lvsV (ks ++ [k]) = lvsV ks ++ [rg1 k] by simp [lvsV]]; exact hv31
  · rw [show u64V (fl ++ [0]) = u64V fl ++ [.int .u64 0] by simp [u64V]]; exact hv40
set_option maxHeartbeats 2000000 in
theorem concat_fnW2 (b f la f1 l1 f2 l2 : Nat) (n1 nu : Bool) (adL : Option Addr) (nL cL : Nat) (vF : Value) (lvF : List (Nat × Obj)) (fl : List Nat) (H : Hp) (hv : Vec 199 1 vF lvF fl.length (u64V fl)) (hl : fl.length ≤ 60) (hl1 : l1 < 2 ^ 64) (hf1 : f1 < 2 ^ 64) (hf2 : f2 < 2 ^ 64) (hfl : ∀ x ∈ fl, x < 2 ^ 64) :
    FnW Tryz.prog 185 #[.pointer (some ⟨b, 0, none⟩), ptV f1 l1 n1, ptV f2 l2 false] H (lvF ++ [tB b (.slice adL nL cL) f la vF nu]) (fun u H' l' => u = ptV (if n1 = true then f1 ||| f2 else f1) l2 false ∧ H' = H ∧ ∃ lvF', Vec 199 1 vF lvF' fl.length (u64V (lkN l1 f2 fl fl.length)) ∧ l' = lvF' ++ [tB b (.slice adL nL cL) f la vF nu]) := by
  have hlk := link_fnW b l1 f2 f la nu adL nL cL vF lvF fl H hv hl hl1 hf2 hfl
  have hor := or_u64 hf1 hf2
  refine FnW.of_T (vs := [.pointer (some ⟨b, 0, none⟩), ptV f1 l1 n1, ptV f2 l2 false]) Tryz.func185 rfl rfl fun _ => ?_; refine zs3 ?_; (refine T.box Wanted.none rfl rfl zq15 ?_; intro b4); (refine T.box Wanted.none rfl rfl zq15 ?_; intro b5); refine sy fun b6 => ?_; refine zs1 ?_; refine sm ?_; refine sf ?_; refine sl ?_; refine sf ?_; refine sl ?_; refine T.callW Wanted.none rfl rfl hlk zq1 ?_
  rintro _ _ lx hle ⟨rfl, lvF', hv', rfl⟩
  cases n1
  · refine zs1 ?_; refine sf ?_; refine sl ?_; refine sf ?_; refine sl ?_; refine sf ?_; refine sl ?_; refine sm ?_; refine sp ?_; refine sp ?_; refine sF ?_; refine sv (PV.build rfl zq12) ?_; refine sy fun b7 => ?_; refine T.storeA Wanted.none rfl rfl zq8 (by exact rfl) zq14 zq13 ?_; refine so ?_; refine sq ?_; refine zs3 ?_; refine sf ?_; refine sl ?_; refine so ?_; refine T.condF rfl rfl ?_; refine T.skip ?_; refine sq ?_; refine zs3 ?_; refine sf ?_; refine sl ?_; refine so ?_; refine T.condF rfl rfl ?_; refine T.skip ?_; refine zs3 ?_; refine sv (PV.loadAll rfl zq0 (by exact rfl)) ?_; refine T.storeA Wanted.none rfl rfl zq8 (by exact rfl) zq14 zq13 ?_; refine so ?_
    exact T.retW (Lv.finW (lvF' ++ [tB b (.slice adL nL cL) f la vF nu]) zq4 (RV.cell rfl (by exact CV.agg rfl zq0 (by exact rfl))) ⟨rfl, rfl, _, hv', rfl⟩)
  · refine zs1 ?_; refine sf ?_; refine sl ?_; refine sf ?_; refine sl ?_; refine sf ?_; refine sl ?_; refine sm ?_; refine gf ?_; refine gl ?_; refine sT ?_; refine sv (PV.build rfl zq12) ?_; refine sy fun b7 => ?_; refine T.storeA Wanted.none rfl rfl zq8 (by exact rfl) zq14 zq13 ?_; refine so ?_; refine sq ?_; refine zs3 ?_; refine sf ?_; refine sl ?_; refine so ?_; refine T.condT rfl rfl ?_; refine sr ?_; refine sf ?_; refine sl ?_; refine sf ?_; refine sl ?_; refine sv (PV.borR rfl rfl (by assumption)) ?_; refine sf ?_; refine T.store1 Wanted.none rfl rfl rfl zq14 zq13 ?_; refine so ?_; refine sq ?_; refine zs3 ?_; refine sf ?_; refine sl ?_; refine so ?_; refine T.condF rfl rfl ?_; refine T.skip ?_; refine zs3 ?_; refine sv (PV.loadAll rfl zq0 (by exact rfl)) ?_; refine T.storeA Wanted.none rfl rfl zq8 (by exact rfl) zq14 zq13 ?_
    refine so ?_
    exact T.retW (Lv.finW (lvF' ++ [tB b (.slice adL nL cL) f la vF nu]) zq4 (RV.cell rfl (by exact CV.agg rfl zq0 (by exact rfl))) ⟨rfl, rfl, _, hv', rfl⟩)
end Go.Proofs.YtpjdhokpfccahaaGreatDoor
namespace Go.Proofs.YtpjdhokpfccahaaGreatDoor
open Go.RowKit

def fstN (k : Nat) : Nat := if k = 0 then 0 else 1
def lstN (k : Nat) : Nat := if k = 0 then 0 else 2 ^ (k - 1)
def flN (k : Nat) : List Nat := (List.range k).map fun i => if i + 1 < k then 2 ^ (i + 1) else 0
theorem flN_len (k : Nat) : (flN k).length = k := by simp [flN]
theorem flN_lt {k : Nat} (hk : k ≤ 60) : ∀ x ∈ flN k, x < 2 ^ 64 := by
  intro x hx
  obtain ⟨i, hi, rfl⟩ := List.mem_map.1 hx
  have := List.mem_range.1 hi
  split
  · exact pow_lt (by omega)
  · decide
theorem lst_bit (k i : Nat) : (lstN k).testBit i = decide (1 ≤ k ∧ i = k - 1) := by
  unfold lstN
  split
  · rename_i h; subst h; simp
  · rename_i h
    rw [Nat.testBit_two_pow]
    rw [Bool.eq_iff_iff]
    simp
    omega
theorem lk_step (k : Nat) : lkN (lstN k) (2 ^ k) (flN k ++ [0]) (k + 1) = flN (k + 1) := by
  unfold lkN
  rw [List.take_of_length_le (by simp [flN_len]), List.drop_of_length_le (by simp [flN_len]), List.append_nil]
  apply List.ext_getElem?
  intro i
  rw [List.getElem?_mapIdx]
  by_cases hi : i < k + 1
  · have h1 : (flN k ++ [0])[i]? = some (if i + 1 < k then 2 ^ (i + 1) else 0) := by
      by_cases h2 : i < k
      · rw [List.getElem?_append_left (by rw [flN_len]; exact h2)]
        unfold flN
        rw [List.getElem?_map, List.getElem?_range h2]; rfl
      · obtain rfl : i = k := by omega
        rw [List.getElem?_append_right (by rw [flN_len]; omega), flN_len, Nat.sub_self, if_neg (by omega)]; rfl
    have h3 : (flN (k + 1))[i]? = some (if i + 1 < k + 1 then 2 ^ (i + 1) else 0) := by
      unfold flN
      rw [List.getElem?_map, List.getElem?_range hi]; rfl
    rw [h1, h3, Option.map_some]
    congr 1
    unfold lkF
    rw [lst_bit]
    by_cases h4 : 1 ≤ k ∧ i = k - 1
    · rw [if_pos (by simpa using h4), if_neg (by omega), if_pos (by omega), Nat.zero_or, show i + 1 = k by omega]
    · rw [if_neg (by simpa using h4)]
      by_cases h5 : i + 1 < k
      · rw [if_pos h5, if_pos (by omega)]
      · rw [if_neg h5, if_neg (by omega)]
  · rw [List.getElem?_eq_none (by simp [flN_len]; omega), List.getElem?_eq_none (by simp [flN_len]; omega)]; rfl
theorem fst_step (k : Nat) : (if (decide (k = 0)) = true then fstN k ||| 2 ^ k else fstN k) = fstN (k + 1) := by
  unfold fstN
  by_cases h : k = 0
  · subst h; rfl
  · simp [h]
theorem lst_step (k : Nat) : 2 ^ k = lstN (k + 1) := by unfold lstN; simp
theorem lst_lt {k : Nat} (h : k ≤ 60) : lstN k < 2 ^ 64 := by
  unfold lstN
  split
  · decide
  · exact pow_lt (by omega)
theorem fst_lt (k : Nat) : fstN k < 2 ^ 64 := by unfold fstN; split <;> decide
theorem T.ownF {P : Program} {X : Cx} {e : Env} {l l' : List (Nat × Obj)} {H : Hp} {D : List Deferred} {k : List It} (hl : l = l') (h : T P X e l' H D k) : T P X e l H D k := hl ▸ h
structure BlG where
  i : Nat
  vL : Value
  lvL : List (Nat × Obj)
  vF : Value
  lvF : List (Nat × Obj)
set_option maxHeartbeats 4000000 in
theorem buildC_fnW (b : Nat) (ad : Option Addr) (cap : Nat) (ks : List Nat) (H : Hp) (c3 : SlR H 5 (.slice ad ks.length cap) ks.length (ks.flatMap encRx)) (hl : ks.length ≤ 60) :
    FnW Tryz.prog 172 #[.pointer (some ⟨b, 0, none⟩), rxV 2 nlS (.slice ad ks.length cap)] H [tB b nlS 0 0 nlS false] (fun u H' l' => u = ptV (fstN ks.length) (lstN ks.length) (decide (ks.length = 0)) ∧ H' = H ∧ ∃ vL lvL vF lvF, Vec 34 1 vL lvL ks.length (lvsV ks) ∧ Vec 199 1 vF lvF ks.length (u64V (flN ks.length)) ∧ l' = lvL ++ (lvF ++ [tB b vL 0 0 vF false])) := by
  refine FnW.of_T (vs := [.pointer (some ⟨b, 0, none⟩), rxV 2 nlS (.slice ad ks.length cap)]) Tryz.func172 rfl rfl fun _ => ?_; refine zs3 ?_; (refine T.box Wanted.none rfl rfl zq15 ?_; intro b3); refine sy fun b4 => ?_; refine so ?_; refine sq ?_; refine zs3 ?_; refine sf ?_; refine sl ?_; refine so ?_; refine T.block ?_; refine zs3 ?_; refine sv (PV.eql rfl rfl) ?_; refine sa ?_; refine so ?_; refine T.condF rfl rfl ?_; refine zs3 ?_; refine sv (PV.eql rfl rfl) ?_; refine sa ?_; refine so ?_; refine T.condT rfl rfl ?_; refine zs3 ?_; refine sv (PV.build rfl zq12) ?_; refine sy fun b6 => ?_; refine T.storeA Wanted.none rfl rfl zq8 (by exact rfl) zq14 zq13 ?_; refine so ?_; refine sq ?_; refine zs3 ?_; refine sf ?_; refine sl ?_; refine sv (PV.lenSl rfl) ?_; refine sm ?_; refine so ?_; refine T.block ?_; refine T.loopK [(51, Value.int IntKind.i64 (↑ks.length : Int)), (50, Value.slice ad ks.length cap), (6, Value.pointer (some { block := b6, off := 0 })), (4, Value.pointer (some { block := b4, off := 0 })), (3, Value.pointer (some { block := b3, off := 0 })), (0, Value.pointer (some { block := b, off := 0 }))] zq8 (γ := BlG) (fun g => g.i ≤ ks.length ∧ Vec 34 1 g.vL g.lvL g.i (lvsV (ks.take g.i)) ∧ Vec 199 1 g.vF g.lvF g.i (u64V (flN g.i))) (fun g => [(52, .int .i64 (g.i : Int))]) (fun g => (b6, .cells #[.int .u64 (fstN g.i : Int), .int .u64 (lstN g.i : Int), .bool (decide (g.i = 0))] 217 (0, 0)) :: (b4, .cells #[.int .u64 0, .int .u64 0, .bool false] 217 (0, 0)) :: (g.lvL ++ (g.lvF ++ [tB b g.vL 0 0 g.vF false]))) (fun _ => H) (fun g => ks.length - g.i) ⟨0, nlS, [], nlS, []⟩ ⟨Nat.zero_le _, Vec.nil _ _, Vec.nil _ _⟩ zq8 (by repeat (first | exact Sel.refl _ | exact Sel.nil | (refine Sel.cons zq1 ?_) | (refine Sel.app zq1 ?_) | exact Sel.one zq1)) rfl ?_
  rintro ⟨i, vL, lvL, vF, lvF⟩ ⟨g1, g2, g3⟩
  dsimp only at g1 g2 g3 ⊢
  obtain ⟨adL, cL, rfl⟩ := g2.val
  obtain ⟨adF, cF, rfl⟩ := g3.val
  by_cases hi : i < ks.length
  · obtain ⟨bx, off, k, rfl, hix, hsub⟩ := RowL.get encRx_len c3 hi
    unfold encRx at hsub
    have htl : (ks.take i).length = i := by rw [List.length_take]; omega
    have hb1 := build1_fnW b 0 0 k false (.slice adL i cL) (.slice adF i cF) lvL lvF (ks.take i) (flN i) H (by rw [htl]; exact g2) (by rw [flN_len]; exact g3) (by omega) (by rw [flN_len, htl])
    rw [htl, flN_len] at hb1
    refine zs3 ?_; refine sv (PV.lss rfl rfl) ?_; refine so ?_; refine sq ?_; refine sC rfl (by omega) ?_; refine T.skip ?_; refine sq ?_; refine T.block ?_; refine zs3 ?_; refine sv (PV.indexAddr rfl rfl (by omega)) ?_; refine sv (PV.loadSubAll rfl (by assumption) (by exact rfl)) ?_; refine sy fun b8 => ?_; refine T.storeA Wanted.none rfl rfl zq8 (by exact rfl) zq14 zq13 ?_; refine so ?_
    (repeat refine sq ?_)
    refine T.regionS [(b8, .cells #[.int .i64 1, .int .i64 0, .int .i64 0, rg1 k, nlS] 37 (0, 0)), (b6, .cells #[.int .u64 (fstN i : Int), .int .u64 (lstN i : Int), .bool (decide (i = 0))] 217 (0, 0))] 6 (by kernel_rfl) ?_; refine TS.take 0 rfl (by kernel_rfl) (by kernel_rfl) (by kernel_rfl) (by kernel_rfl) (PV.move rfl) Wanted.none rfl rfl ?_; refine TS.take 1 rfl (by kernel_rfl) (by kernel_rfl) (by kernel_rfl) (by kernel_rfl) (PV.loadAll rfl zq0 (by exact rfl)) Wanted.none rfl rfl ?_; refine TS.take 2 rfl (by kernel_rfl) (by kernel_rfl) (by kernel_rfl) (by kernel_rfl) (PV.move rfl) Wanted.none rfl rfl ?_; refine TS.take 3 rfl (by kernel_rfl) (by kernel_rfl) (by kernel_rfl) (by kernel_rfl) (PV.loadAll rfl zq0 (by exact rfl)) Wanted.none rfl rfl ?_
    refine TS.ways [4] (by kernel_rfl) rfl zq20 ⟨⟨_, rfl, ?_⟩, trivial⟩
    (refine T.callW Wanted.none rfl rfl hb1 zq1 ?_; rintro _ H60 l60 hle60 ⟨rfl, he60, vL2, lvL2, vF2, lvF2, h1, h2, rfl⟩; obtain rfl := he60.symm); refine so ?_; refine TS.back ?_
    refine TS.ways [5] (by kernel_rfl) rfl zq20 ⟨⟨_, rfl, ?_⟩, trivial⟩
    obtain ⟨adL2, cL2, rfl⟩ := h1.val
    obtain ⟨adF2, cF2, rfl⟩ := h2.val
    have hfl : ∀ x ∈ flN i ++ [0], x < 2 ^ 64 := fun x hx => by
      rcases List.mem_append.1 hx with hx | hx
      · exact flN_lt (by omega) x hx
      · rw [List.mem_singleton] at hx; subst hx; decide
    have hcc := concat_fnW2 b 0 0 (fstN i) (lstN i) (2 ^ i) (2 ^ i) (decide (i = 0)) false adL2 (i + 1) cL2 (.slice adF2 (i + 1) cF2) lvF2 (flN i ++ [0]) H (by rw [List.length_append, flN_len]; exact h2) (by simp [flN_len]; omega) (lst_lt (by omega)) (fst_lt i) (pow_lt (by omega)) hfl
    rw [fst_step, List.length_append, flN_len, List.length_singleton, lk_step] at hcc
    (refine T.callW Wanted.none rfl rfl hcc (by rw [List.append_assoc]; exact Pick.app Pick.allA) ?_; rintro _ H61 l61 hle61 ⟨rfl, he61, lvF3, h3, rfl⟩; obtain rfl := he61.symm); refine so ?_; refine TS.back ?_
    refine TS.ways [6] (by kernel_rfl) rfl zq20 ⟨⟨_, rfl, ?_⟩, trivial⟩
    refine T.storeA Wanted.none rfl rfl zq8 (by exact rfl) zq14 zq13 ?_; refine so ?_; refine TS.back ?_; refine TS.done (by kernel_rfl) (by kernel_rfl) ?_; refine T.blkEnd ?_; refine sr ?_; refine sv (PV.add rfl rfl (by omega)) ?_; refine sm ?_; refine so ?_
    have hd : decide (i + 1 = 0) = false := decide_eq_false (by omega)
    refine T.ownF (by rw [List.append_assoc, List.cons_append, List.nil_append]) ?_
    refine T.nextP ⟨i + 1, .slice adL2 (i + 1) cL2, lvL2, .slice adF2 (i + 1) cF2, lvF3⟩ ⟨by dsimp only; omega, ?_, h3⟩ (by dsimp only; omega) zq8 ?_ rfl
    · dsimp only
      rw [show ks.take (i + 1) = ks.take i ++ [k] by rw [List.take_add_one, hix]; rfl]
      exact h1
    · dsimp only
      rw [hd, ← lst_step]
      exact (by repeat (first | exact Sel.refl _ | exact Sel.nil | (refine Sel.cons zq1 ?_) | (refine Sel.app zq1 ?_) | exact Sel.one zq1))
  · obtain rfl : i = ks.length := by omega
    rw [List.take_of_length_le (Nat.le_refl _)] at g2
    refine zs3 ?_; refine sv (PV.lss rfl rfl) ?_; refine so ?_; refine sq ?_; refine sd rfl (by omega) ?_; refine T.exit rfl ?_; refine zs3 ?_; refine sv (PV.loadAll rfl zq0 (by exact rfl)) ?_; refine T.storeA Wanted.none rfl rfl zq8 (by exact rfl) zq14 zq13 ?_; refine so ?_
    exact T.retW (Lv.finW (lvL ++ (lvF ++ [tB b (.slice adL ks.length cL) 0 0 (.slice adF ks.length cF) false])) zq4 (RV.cell rfl (by exact CV.agg rfl zq0 (by exact rfl))) ⟨rfl, rfl, _, lvL, _, lvF, g2, g3, rfl⟩)
end Go.Proofs.YtpjdhokpfccahaaGreatDoor
namespace Go.Proofs.YtpjdhokpfccahaaGreatDoor
open Go.RowKit

/-- the table in memory -/
structure TabR (H : Hp) (bt : Nat) (ks : List Nat) (vL vF : Value) : Prop where
  c : H bt = some (.cells #[vL, .int .u64 (fstN ks.length : Int), .int .u64 (lstN ks.length : Int), vF, .bool (decide (ks.length = 0))] 204 (0, 0))
  l : SlR H 1 vL ks.length (lvsV ks)
  f : SlR H 1 vF ks.length (u64V (flN ks.length))
theorem TabR.mono {H H' : Hp} {bt : Nat} {ks : List Nat} {vL vF : Value} (h : TabR H bt ks vL vF) (hl : H.le H') : TabR H' bt ks vL vF := ⟨hl _ _ h.c, h.l.mono hl, h.f.mono hl⟩
/-- the blocks that the leaves name -/
def LksR (H : Hp) (ks ws : List Nat) : Prop := ks.length = ws.length ∧ ∀ (j k w : Nat), ks[j]? = some k → ws[j]? = some w → RgS H k w
set_option maxHeartbeats 2000000 in
theorem of_fn (e : Value) (ws : List Nat) (H : Hp) (he : LitR H e ws) (hl : ws.length ≤ 60) : Fn Tryz.prog 151 #[e] H (fun u H' => ∃ bt ks vL vF, u = .pointer (some ⟨bt, 0, none⟩) ∧ TabR H' bt ks vL vF ∧ LksR H' ks ws) := by
  cases he with
  | @one k w hk =>
    have hb : ∀ b, FnW Tryz.prog 172 #[.pointer (some ⟨b, 0, none⟩), rxV 1 (rg1 k) nlS] H [tB b nlS 0 0 nlS false] (fun u H' l' => u = ptV 1 1 false ∧ H' = H ∧ ∃ vL lvL vF lvF, Vec 34 1 vL lvL 1 (lvsV [k]) ∧ Vec 199 1 vF lvF 1 (u64V [0]) ∧ l' = lvL ++ (lvF ++ [tB b vL 0 0 vF false])) := fun b => build1_fnW b 0 0 k false nlS nlS [] [] [] [] H (Vec.nil _ _) (Vec.nil _ _) (by simp) rfl
    refine Fn.of_T (vs := [rxV 1 (rg1 k) nlS]) Tryz.func151 rfl rfl fun _ => ?_; refine zs3 ?_; (refine T.box Wanted.none rfl rfl zq15 ?_; intro b1); refine sa ?_; refine zs1 ?_; refine sv (PV.build rfl zq12) ?_; (refine T.box Wanted.none rfl rfl zq15 ?_; intro b6); refine sa ?_; refine zs1 ?_; refine sm ?_; refine sv (PV.loadAll rfl zq0 (by exact rfl)) ?_; refine T.callW Wanted.none rfl rfl (hb b6) zq1 ?_
    rintro _ H1 l1 hle ⟨rfl, rfl, vL, lvL, vF, lvF, h1, h2, rfl⟩
    obtain ⟨adL, cL, rfl⟩ := h1.val
    obtain ⟨adF, cF, rfl⟩ := h2.val
    refine sy fun b4 => ?_; refine T.storeA Wanted.none rfl rfl zq8 (by exact rfl) zq14 zq13 ?_; refine so ?_
    (repeat refine sq ?_)
    refine T.ownF (by rw [List.append_assoc, List.append_assoc]) ?_; refine T.weak (e' := [(3, .pointer (some ⟨b6, 0, none⟩)), (4, .pointer (some ⟨b4, 0, none⟩))]) zq8 (List.Sublist.refl _) ?_; refine T.regionA [(b4, .cells #[.int .u64 ((1 : Nat) : Int), .int .u64 ((1 : Nat) : Int), .bool false] 217 (0, 0))] (by kernel_rfl) zq4 ?_; (refine TA.pv (PV.move rfl) Wanted.none rfl rfl ?_; refine TA.nrm (by simp only [List.nil_append, List.cons_append]; exact rfl) ?_); (refine TA.pv (PV.move rfl) Wanted.none rfl rfl ?_; refine TA.nrm (by simp only [List.nil_append, List.cons_append]; exact rfl) ?_); (refine TA.pv (PV.move rfl) Wanted.none rfl rfl ?_; refine TA.nrm (by simp only [List.nil_append, List.cons_append]; exact rfl) ?_); (refine TA.pv (PV.fieldAddr rfl) Wanted.none rfl rfl ?_; refine TA.nrm (by simp only [List.nil_append, List.cons_append]; exact rfl) ?_); (refine TA.pv (PV.load1 rfl zq0 rfl) Wanted.none rfl rfl ?_; refine TA.nrm (by simp only [List.nil_append, List.cons_append]; exact rfl) ?_); (refine TA.pv (PV.fieldAddr rfl) Wanted.none rfl rfl ?_; refine TA.nrm (by simp only [List.nil_append, List.cons_append]; exact rfl) ?_); (refine TA.pv (PV.load1 rfl zq0 rfl) Wanted.none rfl rfl ?_; refine TA.nrm (by simp only [List.nil_append, List.cons_append]; exact rfl) ?_); (refine TA.pv (PV.fieldAddr rfl) Wanted.none rfl rfl ?_; refine TA.nrm (by simp only [List.nil_append, List.cons_append]; exact rfl) ?_); (refine TA.pv (PV.load1 rfl zq0 rfl) Wanted.none rfl rfl ?_; refine TA.nrm (by simp only [List.nil_append, List.cons_append]; exact rfl) ?_); (refine TA.pv (PV.nilCheck rfl) Wanted.none rfl rfl ?_; refine TA.nrm (by simp only [List.nil_append, List.cons_append]; exact rfl) ?_); (refine TA.pv (PV.fieldAddr rfl) Wanted.none rfl rfl ?_; refine TA.nrm (by simp only [List.nil_append, List.cons_append]; exact rfl) ?_); (refine TA.ps (PS.store1 rfl rfl rfl zq14 zq13) Wanted.none rfl zq4 ?_; refine TA.nrm (by simp only [List.nil_append, List.cons_append]; exact rfl) ?_); (refine TA.pv (PV.nilCheck rfl) Wanted.none rfl rfl ?_; refine TA.nrm (by simp only [List.nil_append, List.cons_append]; exact rfl) ?_); (refine TA.pv (PV.fieldAddr rfl) Wanted.none rfl rfl ?_; refine TA.nrm (by simp only [List.nil_append, List.cons_append]; exact rfl) ?_); (refine TA.ps (PS.store1 rfl rfl rfl zq14 zq13) Wanted.none rfl zq4 ?_; refine TA.nrm (by simp only [List.nil_append, List.cons_append]; exact rfl) ?_); (refine TA.pv (PV.nilCheck rfl) Wanted.none rfl rfl ?_; refine TA.nrm (by simp only [List.nil_append, List.cons_append]; exact rfl) ?_); (refine TA.pv (PV.fieldAddr rfl) Wanted.none rfl rfl ?_; refine TA.nrm (by simp only [List.nil_append, List.cons_append]; exact rfl) ?_); (refine TA.ps (PS.store1 rfl rfl rfl zq14 zq13) Wanted.none rfl zq4 ?_; refine TA.nrm (by simp only [List.nil_append, List.cons_append]; exact rfl) ?_); refine TA.nil ?_; refine zs3 ?_; refine sm ?_; refine sa ?_; refine so ?_; refine T.freezeP (lv := lvL) h1 zq1 ?_
    intro Ha hla hsa
    refine T.freezeP (lv := lvF) h2 zq1 ?_
    intro Hb hlb hsb
    refine T.freezeB (b := b6) zq1 ?_
    intro Hc hlc hbc
    refine T.retF (Lv.fin (RV.tmp rfl rfl) ⟨b6, [k], _, _, rfl, ⟨hbc, (hsa.mono hlb).mono hlc, hsb.mono hlc⟩, rfl, fun j k2 w2 hk2 hw2 => ?_⟩)
    have hj := (List.getElem?_eq_some_iff.1 hk2).1
    obtain rfl : j = 0 := by simp at hj; omega
    cases hk2
    cases hw2
    exact ((hk.mono hla).mono hlb).mono hlc
  | @cat ad cap ks _ c1 c2 c3 c4 =>
    have hb := fun b => buildC_fnW b ad cap ks H c3 (by omega)
    refine Fn.of_T (vs := [rxV 2 nlS (.slice ad ks.length cap)]) Tryz.func151 rfl rfl fun _ => ?_; refine zs3 ?_; (refine T.box Wanted.none rfl rfl zq15 ?_; intro b1); refine sa ?_; refine zs1 ?_; refine sv (PV.build rfl zq12) ?_; (refine T.box Wanted.none rfl rfl zq15 ?_; intro b6); refine sa ?_; refine zs1 ?_; refine sm ?_; refine sv (PV.loadAll rfl zq0 (by exact rfl)) ?_; refine T.callW Wanted.none rfl rfl (hb b6) zq1 ?_
    rintro _ H1 l1 hle ⟨rfl, rfl, vL, lvL, vF, lvF, h1, h2, rfl⟩
    obtain ⟨adL, cL, rfl⟩ := h1.val
    obtain ⟨adF, cF, rfl⟩ := h2.val
    refine sy fun b4 => ?_; refine T.storeA Wanted.none rfl rfl zq8 (by exact rfl) zq14 zq13 ?_; refine so ?_
    (repeat refine sq ?_)
    refine T.ownF (by rw [List.append_assoc, List.append_assoc]) ?_; refine T.weak (e' := [(3, .pointer (some ⟨b6, 0, none⟩)), (4, .pointer (some ⟨b4, 0, none⟩))]) zq8 (List.Sublist.refl _) ?_; refine T.regionA [(b4, .cells #[.int .u64 (fstN ks.length : Int), .int .u64 (lstN ks.length : Int), .bool (decide (ks.length = 0))] 217 (0, 0))] (by kernel_rfl) zq4 ?_; (refine TA.pv (PV.move rfl) Wanted.none rfl rfl ?_; refine TA.nrm (by simp only [List.nil_append, List.cons_append]; exact rfl) ?_); (refine TA.pv (PV.move rfl) Wanted.none rfl rfl ?_; refine TA.nrm (by simp only [List.nil_append, List.cons_append]; exact rfl) ?_); (refine TA.pv (PV.move rfl) Wanted.none rfl rfl ?_; refine TA.nrm (by simp only [List.nil_append, List.cons_append]; exact rfl) ?_); (refine TA.pv (PV.fieldAddr rfl) Wanted.none rfl rfl ?_; refine TA.nrm (by simp only [List.nil_append, List.cons_append]; exact rfl) ?_); (refine TA.pv (PV.load1 rfl zq0 rfl) Wanted.none rfl rfl ?_; refine TA.nrm (by simp only [List.nil_append, List.cons_append]; exact rfl) ?_); (refine TA.pv (PV.fieldAddr rfl) Wanted.none rfl rfl ?_; refine TA.nrm (by simp only [List.nil_append, List.cons_append]; exact rfl) ?_); (refine TA.pv (PV.load1 rfl zq0 rfl) Wanted.none rfl rfl ?_; refine TA.nrm (by simp only [List.nil_append, List.cons_append]; exact rfl) ?_); (refine TA.pv (PV.fieldAddr rfl) Wanted.none rfl rfl ?_; refine TA.nrm (by simp only [List.nil_append, List.cons_append]; exact rfl) ?_); (refine TA.pv (PV.load1 rfl zq0 rfl) Wanted.none rfl rfl ?_; refine TA.nrm (by simp only [List.nil_append, List.cons_append]; exact rfl) ?_); (refine TA.pv (PV.nilCheck rfl) Wanted.none rfl rfl ?_; refine TA.nrm (by simp only [List.nil_append, List.cons_append]; exact rfl) ?_); (refine TA.pv (PV.fieldAddr rfl) Wanted.none rfl rfl ?_; refine TA.nrm (by simp only [List.nil_append, List.cons_append]; exact rfl) ?_); (refine TA.ps (PS.store1 rfl rfl rfl zq14 zq13) Wanted.none rfl zq4 ?_; refine TA.nrm (by simp only [List.nil_append, List.cons_append]; exact rfl) ?_); (refine TA.pv (PV.nilCheck rfl) Wanted.none rfl rfl ?_; refine TA.nrm (by simp only [List.nil_append, List.cons_append]; exact rfl) ?_); (refine TA.pv (PV.fieldAddr rfl) Wanted.none rfl rfl ?_; refine TA.nrm (by simp only [List.nil_append, List.cons_append]; exact rfl) ?_); (refine TA.ps (PS.store1 rfl rfl rfl zq14 zq13) Wanted.none rfl zq4 ?_; refine TA.nrm (by simp only [List.nil_append, List.cons_append]; exact rfl) ?_); (refine TA.pv (PV.nilCheck rfl) Wanted.none rfl rfl ?_; refine TA.nrm (by simp only [List.nil_append, List.cons_append]; exact rfl) ?_); (refine TA.pv (PV.fieldAddr rfl) Wanted.none rfl rfl ?_; refine TA.nrm (by simp only [List.nil_append, List.cons_append]; exact rfl) ?_); (refine TA.ps (PS.store1 rfl rfl rfl zq14 zq13) Wanted.none rfl zq4 ?_; refine TA.nrm (by simp only [List.nil_append, List.cons_append]; exact rfl) ?_); refine TA.nil ?_; refine zs3 ?_; refine sm ?_; refine sa ?_; refine so ?_; refine T.freezeP (lv := lvL) h1 zq1 ?_
    intro Ha hla hsa
    refine T.freezeP (lv := lvF) h2 zq1 ?_
    intro Hb hlb hsb
    refine T.freezeB (b := b6) zq1 ?_
    intro Hc hlc hbc
    exact T.retF (Lv.fin (RV.tmp rfl rfl) ⟨b6, _, _, _, rfl, ⟨hbc, (hsa.mono hlb).mono hlc, hsb.mono hlc⟩, c2, fun j k2 w2 hk2 hw2 => ((((c4 j k2 w2 hk2 hw2).mono hla).mono hlb).mono hlc)⟩)
end Go.Proofs.YtpjdhokpfccahaaGreatDoor
