/- The shelf's contracts, laid at this program (written by the kit's command).
   Own layer: strconv.AppendInt of a natural number at base 10, into a row of the caller's.
   table: AppendUint, AppendInt, join.
   table: the order of rows: the program. -/
import Derived.Shelf.SlLaysF0
import Derived.Shelf.SlSortCmp.NoneTotal
import Derived.Test.YthacphfjchpoaaaGreatDoorProg
import Derived.Test.YthacphfjchpoaaaGreatDoorGE
namespace Go.Proofs.YthacphfjchpoaaaGreatDoor
open Go.Proofs Go.Shelf

def Tryz.sortL_ren : Go.Shelf.Ren := ⟨fun | 6 => 69 | 15 => 92 | 14 => 91 | 28 => 123 | 29 => 124 | 20 => 115 | 21 => 116 | 22 => 117 | 23 => 118 | 24 => 119 | 25 => 120 | 26 => 121 | 27 => 122 | 46 => 141 | 47 => 142 | 48 => 143 | 49 => 144 | 50 => 145 | 57 => 155 | n => n, fun | 22 => 38 | 24 => 52 | 25 => 88 | 3 => 3 | 39 => 140 | 0 => 0 | 53 => 164 | 55 => 166 | 4 => 4 | 46 => 158 | 45 => 157 | 50 => 113 | 5 => 5 | 9 => 9 | 66 => 187 | 70 => 191 | 76 => 202 | 77 => 203 | n => n, fun | n => n⟩
theorem Tryz.sortL : Go.Proofs.SlLaysF0.n6 Tryz.prog Tryz.sortL_ren := {
  mixed := by kernel_rfl,
  f6 := ⟨Tryz.f69.name, by decide, Tryz.func69.trans (congrArg some (by kernel_rfl))⟩,
  f14 := ⟨Tryz.f91.name, by decide, Tryz.func91.trans (congrArg some (by kernel_rfl))⟩,
  f15 := Tryz.func92.trans (congrArg some (by kernel_rfl)),
  f20 := ⟨Tryz.f115.name, by decide, Tryz.func115.trans (congrArg some (by kernel_rfl))⟩,
  f21 := ⟨Tryz.f116.name, by decide, Tryz.func116.trans (congrArg some (by kernel_rfl))⟩,
  f22 := ⟨Tryz.f117.name, by decide, Tryz.func117.trans (congrArg some (by kernel_rfl))⟩,
  f23 := ⟨Tryz.f118.name, by decide, Tryz.func118.trans (congrArg some (by kernel_rfl))⟩,
  f24 := ⟨Tryz.f119.name, by decide, Tryz.func119.trans (congrArg some (by kernel_rfl))⟩,
  f25 := ⟨Tryz.f120.name, by decide, Tryz.func120.trans (congrArg some (by kernel_rfl))⟩,
  f26 := ⟨Tryz.f121.name, by decide, Tryz.func121.trans (congrArg some (by kernel_rfl))⟩,
  f27 := ⟨Tryz.f122.name, by decide, Tryz.func122.trans (congrArg some (by kernel_rfl))⟩,
  f28 := Tryz.func123.trans (congrArg some (by kernel_rfl)),
  f29 := Tryz.func124.trans (congrArg some (by kernel_rfl)),
  f46 := ⟨Tryz.f141.name, by decide, Tryz.func141.trans (congrArg some (by kernel_rfl))⟩,
  f47 := Tryz.func142.trans (congrArg some (by kernel_rfl)),
  f48 := Tryz.func143.trans (congrArg some (by kernel_rfl)),
  f49 := ⟨Tryz.f144.name, by decide, Tryz.func144.trans (congrArg some (by kernel_rfl))⟩,
  f50 := ⟨Tryz.f145.name, by decide, Tryz.func145.trans (congrArg some (by kernel_rfl))⟩,
  f57 := ⟨Tryz.f155.name, by decide, Tryz.func155.trans (congrArg some (by kernel_rfl))⟩,
  t0 := Tryz.underlying0,
  a0 := Tryz.isAgg0,
  z0 := Tryz.sizeOf0,
  v0 := Tryz.zeroValue0,
  t3 := Tryz.underlying3,
  a3 := Tryz.isAgg3,
  z3 := Tryz.sizeOf3,
  v3 := Tryz.zeroValue3,
  t4 := Tryz.underlying4,
  a4 := Tryz.isAgg4,
  z4 := Tryz.sizeOf4,
  v4 := Tryz.zeroValue4,
  t5 := Tryz.underlying5,
  a5 := Tryz.isAgg5,
  z5 := Tryz.sizeOf5,
  v5 := Tryz.zeroValue5,
  t9 := Tryz.underlying9,
  a9 := Tryz.isAgg9,
  z9 := Tryz.sizeOf9,
  v9 := Tryz.zeroValue9,
  t22 := Tryz.underlying38,
  a22 := Tryz.isAgg38,
  z22 := Tryz.sizeOf38,
  v22 := Tryz.zeroValue38,
  t25 := Tryz.underlying88,
  a25 := Tryz.isAgg88,
  z25 := Tryz.sizeOf88,
  v25 := Tryz.zeroValue88,
  t39 := Tryz.underlying140,
  a39 := Tryz.isAgg140,
  z39 := Tryz.sizeOf140,
  v39 := Tryz.zeroValue140,
  t45 := Tryz.underlying157,
  a45 := Tryz.isAgg157,
  z45 := Tryz.sizeOf157,
  v45 := Tryz.zeroValue157,
  t46 := Tryz.underlying158,
  a46 := Tryz.isAgg158,
  z46 := Tryz.sizeOf158,
  v46 := Tryz.zeroValue158,
  t50 := Tryz.underlying113,
  a50 := Tryz.isAgg113,
  z50 := Tryz.sizeOf113,
  v50 := Tryz.zeroValue113,
  t53 := Tryz.underlying164,
  a53 := Tryz.isAgg164,
  z53 := Tryz.sizeOf164,
  v53 := Tryz.zeroValue164,
  t55 := Tryz.underlying166,
  a55 := Tryz.isAgg166,
  z55 := Tryz.sizeOf166,
  v55 := Tryz.zeroValue166,
  t66 := Tryz.underlying187,
  a66 := Tryz.isAgg187,
  z66 := Tryz.sizeOf187,
  v66 := Tryz.zeroValue187,
  t70 := Tryz.underlying191,
  a70 := Tryz.isAgg191,
  z70 := Tryz.sizeOf191,
  v70 := Tryz.zeroValue191,
  t76 := Tryz.underlying202,
  a76 := Tryz.isAgg202,
  z76 := Tryz.sizeOf202,
  v76 := Tryz.zeroValue202,
  t77 := Tryz.underlying203,
  a77 := Tryz.isAgg203,
  z77 := Tryz.sizeOf203,
  v77 := Tryz.zeroValue203 }
end Go.Proofs.YthacphfjchpoaaaGreatDoor
namespace Go.Proofs.YthacphfjchpoaaaGreatDoor
open Go.RowKit

theorem small_fn (u : Nat) (hu : u < 100) (H : Hp) : Fn Tryz.prog 147 #[.int .i64 (u : Int)] H (fun v _ => v = .string ⟨(Lib.decDigits u).toArray⟩) := Fn.mk fun w hw =>
  callsIn_wide.2 ((Go.Proofs.Any.internal_strconv_small (ρ := Tryz.itoaL_ren) { Tryz.itoaL with } u hu w).mono fun e w' ⟨h1, h2⟩ => by
    subst h1 h2
    exact ⟨_, H, rfl, fun _ _ => rfl, hw, Keep.refl _ _, rfl⟩)
theorem PowT.tab {H : Hp} (hT : PowT H) {w : World} (hw : Hin H w) : Lib.TabIs Tryz.prog w "internal/strconv.uint64pow10" .u64 Lib.pow10Tab := by
  obtain ⟨t, fz, hg⟩ := hT
  have hb := hw _ _ hg
  unfold Lib.TabIs World.var?
  rw [Option.bind_eq_some_iff]
  exact ⟨0, by kernel_rfl, by rw [hb]⟩
theorem numDigits_fn (u : Nat) (h1 : 1 ≤ u) (h2 : u < 18446744073709551616) (H : Hp) (hT : PowT H) : Fn Tryz.prog 148 #[.int .u64 (u : Int)] H (fun v _ => v = .int .i64 (Lib.nDigits u : Int)) := Fn.mk fun w hw =>
  callsIn_wide.2 ((Go.Proofs.Any.internal_strconv_numDigits (ρ := Tryz.itoaL_ren) { Tryz.itoaL with } u h1 h2 w (hT.tab hw)).mono fun e w' ⟨h1, h2⟩ => by
    subst h1 h2
    exact ⟨_, H, rfl, fun _ _ => rfl, hw, Keep.refl _ _, rfl⟩)
theorem holds_of {w : World} {b el : Nat} {n : Nat} {tl : List Value} (hb : w.heap[b]? = some (.cells ((List.replicate n (Value.int .u8 0)) ++ tl).toArray el (0, 0))) : Go.Sort.Holds (fun (b : UInt8) => Value.int .u8 (b.toNat : Int)) w b 0 (Array.replicate n 0) := by
  intro j hj
  rw [Array.size_replicate] at hj
  constructor
  · simp only [World.cell?, hb, Nat.zero_add]
    rw [getElem!_pos _ j (by simpa using hj)]
    simp [List.getElem?_append_left, hj]
  · simp [World.frozen?, hb]
theorem putRow_heap {w : World} {b el : Nat} {n : Nat} {tl : List Value} (hb : w.heap[b]? = some (.cells ((List.replicate n (Value.int .u8 0)) ++ tl).toArray el (0, 0))) (dk : Array UInt8) (hs : dk.size = n) :
    (Go.Sort.putRow (fun (b : UInt8) => Value.int .u8 (b.toNat : Int)) w b 0 dk).heap[b]? = some (.cells (bytesV dk.toList ++ tl).toArray el (0, 0)) ∧ ∀ c, c ≠ b → (Go.Sort.putRow (fun (b : UInt8) => Value.int .u8 (b.toNat : Int)) w b 0 dk).heap[c]? = w.heap[c]? := by
  unfold Go.Sort.putRow Go.Sort.mapBlock
  constructor
  · simp only [Array.getElem?_modify, if_true, hb, Option.map_some, Go.Sort.onCells]
    congr 2
    refine Array.ext_getElem? fun t => ?_
    unfold Go.Sort.putCells
    rw [Array.getElem?_mapIdx]
    by_cases ht : t < n
    · have e3 : ((List.replicate n (Value.int .u8 0) ++ tl).toArray)[t]? = some (.int .u8 0) := by
        rw [List.getElem?_toArray, List.getElem?_append_left (by simpa using ht)]
        simp [ht]
      rw [e3]
      simp only [Option.map_some, Nat.zero_le, Nat.zero_add, hs, ht, and_self, if_true, Nat.sub_zero]
      rw [List.getElem?_toArray, List.getElem?_append_left (by simp [bytesV]; omega)]
      rw [getElem!_pos dk t (by omega)]
      simp [bytesV, hs, ht]
    · have e1 : ((List.replicate n (Value.int .u8 0) ++ tl).toArray)[t]? = tl[t - n]? := by
        rw [List.getElem?_toArray, List.getElem?_append_right (by simp; omega)]; simp
      have e2 : ((bytesV dk.toList ++ tl).toArray)[t]? = tl[t - n]? := by
        rw [List.getElem?_toArray, List.getElem?_append_right (by simp [bytesV]; omega)]; simp [bytesV, hs]
      rw [e1, e2]
      cases tl[t - n]? with
      | none => rfl
      | some v => simp [hs, ht]
  · intro c hc
    simp only [Array.getElem?_modify]
    rw [if_neg (fun h => hc h.symm)]
theorem fmt10_fn (u : Nat) (h1 : 1 ≤ u) (h2 : u < 18446744073709551616) (b cap el : Nat) (tl : List Value) (H : Hp) :
    FnW Tryz.prog 149 #[.slice (some ⟨b, 0, none⟩) (Lib.nDigits u) cap, .int .u64 (u : Int)] H [(b, .cells (List.replicate (Lib.nDigits u) (Value.int .u8 0) ++ tl).toArray el (0, 0))]
      (fun v H' l' => v = .tuple #[] ∧ H' = H ∧ l' = [(b, .cells (bytesV (Lib.decDigits u) ++ tl).toArray el (0, 0))]) := FnW.mk fun w hw => by
  obtain ⟨hb, hHb, _⟩ := hw.own _ List.mem_cons_self
  simp only at hb hHb
  have hlt : b < w.heap.size := (Array.getElem?_eq_some_iff.1 hb).1
  have hnd : Lib.nDigits u ≤ 20 := by have := Lib.numDigits_eq u h1 h2; split at this <;> omega
  have hc := Go.Proofs.Any.internal_strconv_formatBase10 (ρ := Tryz.itoaL_ren) { Tryz.itoaL with } b 0 cap u (Array.replicate (Lib.nDigits u) 0) w (holds_of hb) (by rw [Array.size_replicate]; exact Lib.lt_pow_nDigits u) h2 (by rw [Array.size_replicate]; omega)
  rw [Array.size_replicate] at hc
  refine callsIn_wide.2 (hc.mono ?_)
  rintro e w' ⟨rfl, n, v', dk, rfl, hF⟩
  obtain ⟨f1, f2⟩ := putRow_heap hb dk hF.size
  have hdk : dk.toList = Lib.decDigits u := by
    refine List.ext_getElem (by rw [Array.length_toList, hF.size, Lib.decDigits_length]) fun j hj1 hj2 => ?_
    rw [Lib.row_is_numeral hF j hj2, Array.getElem_toList, getElem!_pos dk j (by simpa using hj1)]
  rw [hdk] at f1
  have hsz : (Go.Sort.putRow (fun (b : UInt8) => Value.int .u8 (b.toNat : Int)) w b 0 dk).heap.size = w.heap.size := by
    unfold Go.Sort.putRow Go.Sort.mapBlock
    simp
  refine ⟨_, H, _, rfl, ⟨fun p hp => ?_, by simp, fun c o hcc => ?_, ⟨rfl, rfl, rfl, ?_, ?_, fun c hcc hp => ?_⟩, Hp.le.refl _, fun _ _ _ => rfl⟩, rfl, rfl, rfl⟩
  · obtain rfl := List.mem_singleton.1 hp
    exact ⟨f1, hHb, fun _ hn => hn (by simp)⟩
  · have hcb : c ≠ b := fun e => by rw [e, hHb] at hcc; cases hcc
    exact (f2 c hcb).trans (hw.fro c o hcc)
  · show w.heap.size ≤ (Go.Sort.putRow (fun (b : UInt8) => Value.int .u8 (b.toNat : Int)) w b 0 dk).heap.size
    rw [hsz]; exact Nat.le_refl _
  · show w.drawn ≤ w.drawn + n
    omega
  · exact f2 c (fun e => hp (by subst e; simp))
theorem PV.sliceArr {P : Program} {e : Env} {l : List (Nat × Obj)} {H : Hp} {dst : Option Tmp} {ty : TypeId} {pos : String} {after : Array Edge} {gd : Option (Nat × Bool)} {t : TypeId} {x z : Operand} {b n : Nat} {hi : Int}
    (hx : evE e x = some (.pointer (some ⟨b, 0, none⟩))) (hz : evE e z = some (.int .i64 hi)) (_hn : P.arrayLen t = n) (_h0 : 0 ≤ hi ∧ hi ≤ n) (hr : ∀ w, (Instr.sliceAt t (.pointer (some ⟨b, 0, none⟩)) none (some (.int .i64 hi)) none).run P w = .ok (.slice (some ⟨b, 0, none⟩) hi.toNat n) w) :
    PV P e l H ⟨dst, .slice t x none (some z) none, ty, pos, after, gd⟩ (.slice (some ⟨b, 0, none⟩) hi.toNat n) := PV.mk fun X D a w ha hw => by
  simp [execOp, ha.eval hx, ha.eval hz, hr w]
end Go.Proofs.YthacphfjchpoaaaGreatDoor
namespace Go.Proofs.YthacphfjchpoaaaGreatDoor
open Go.RowKit

theorem bytesV_one (l : List UInt8) : ∀ v ∈ bytesV l, v.oneCell' = true := by
  intro v hv
  obtain ⟨b, _, rfl⟩ := List.mem_map.1 hv
  rfl
theorem sliceArr24 (w : World) (b : Nat) (hi : Int) (h0 : 0 ≤ hi ∧ hi ≤ 24) : (Instr.sliceAt 194 (.pointer (some ⟨b, 0, none⟩)) none (some (.int .i64 hi)) none).run Tryz.prog w = .ok (.slice (some ⟨b, 0, none⟩) hi.toNat 24) w := by
  have hal : Tryz.prog.arrayLen 194 = 24 := by kernel_rfl
  have e3 : ∀ a : Addr, a.add 0 = a := by intro a; unfold Addr.add; split <;> simp_all
  have hu : Tryz.prog.underlying 194 = some (.array (Tryz.prog.arrayLen 194) (Tryz.prog.elem 194)) := by kernel_rfl
  have h := run_sliceAt_array_h (P := Tryz.prog) w 194 ⟨b, 0, none⟩ hu .i64 hi h0.1 (by rw [hal]; exact h0.2)
  have hel : Tryz.prog.elem 194 = 5 := by kernel_rfl
  have hs : (sizeOf 5).run Tryz.prog w = .ok 1 w := Tryz.sizeOf5 w
  rw [hal, hel, hs] at h
  rw [h]
  simp [slicedAt, Result.andThen, e3]
theorem zeros24 (n : Nat) (h : n ≤ 24) : (#[Value.int .u8 0, .int .u8 0, .int .u8 0, .int .u8 0, .int .u8 0, .int .u8 0, .int .u8 0, .int .u8 0, .int .u8 0, .int .u8 0, .int .u8 0, .int .u8 0, .int .u8 0, .int .u8 0, .int .u8 0, .int .u8 0, .int .u8 0, .int .u8 0, .int .u8 0, .int .u8 0, .int .u8 0, .int .u8 0, .int .u8 0, .int .u8 0] : Array Value) = (List.replicate n (Value.int .u8 0) ++ List.replicate (24 - n) (Value.int .u8 0)).toArray := by
  rw [List.replicate_append_replicate, show n + (24 - n) = 24 by omega]
  rfl
set_option maxHeartbeats 1000000 in
theorem appendUint_fn (u n : Nat) (hu : u < 18446744073709551616) (v : Value) (lv : List (Nat × Obj)) (xs : List Value) (H : Hp) (hT : PowT H) (hv : Vec 5 1 v lv n xs) (hn : n ≤ 140737488355000) :
    FnW Tryz.prog 132 #[v, .int .u64 (u : Int), .int .i64 10] H lv (fun r H' l' => H' = H ∧ Vec 5 1 r l' (n + (Lib.decDigits u).length) (xs ++ bytesV (Lib.decDigits u))) := by
  obtain ⟨adv, capv, rfl⟩ := hv.val
  refine FnW.of_T (vs := [.slice adv n capv, .int .u64 (u : Int), .int .i64 10]) Tryz.func132 rfl rfl fun w => ?_
  by_cases h1 : u < 100
  · have hs := small_fn u h1 H
    have hl : (Lib.decDigits u).length ≤ 2 := by
      by_cases h9 : u < 10
      · rw [Lib.decDigits_one h9]; simp
      · rw [Lib.decDigits_two h9 h1]; simp
    have hl2 : (⟨(Lib.decDigits u).toArray⟩ : ByteArray).size ≤ 2 := hl
    refine yq25 ?_; refine yq14 ?_; refine yq197 ?_; refine yq14 ?_; refine yq3 ?_; refine sc rfl (by omega) ?_; refine yq137 ?_; refine sv (PV.conv64 rfl (by omega)) ?_; refine T.callV Wanted.none rfl rfl (hs) ?_; (refine T.appendP (lv := lv) Wanted.none rfl rfl rfl hv Src.str (bytesV_one _) (by omega) zq1 ?_; intro v17 lv17 hv17 _; obtain ⟨ad17, cap17, rfl⟩ := hv17.val); refine yq0 ?_
    exact T.retW (Lv.finW lv17 zq4 (RV.tmp rfl rfl) ⟨rfl, hv17⟩)
  · have hs := numDigits_fn u (by omega) hu H hT
    have hnd : Lib.nDigits u ≤ 20 := by have := Lib.numDigits_eq u (by omega) hu; split at this <;> omega
    have hdl := Lib.decDigits_length u
    refine yq25 ?_; refine yq14 ?_; refine yq197 ?_; refine yq14 ?_; refine yq3 ?_; refine yq22 ?_; refine zs3 ?_; refine sy fun b7 => ?_; refine zs1 ?_; refine sm ?_; refine T.callV Wanted.none rfl rfl (hs) ?_; refine yq0 ?_
    rw [zeros24 (Lib.nDigits u) (by omega)]
    refine yq2 ?_; refine T.pv (PV.sliceArr (n := 24) rfl rfl (by kernel_rfl) (by omega) (fun w => sliceArr24 w _ _ (by omega))) Wanted.none rfl rfl ?_
    rw [Int.toNat_natCast]
    refine sm ?_; (refine T.callW Wanted.none rfl rfl (fmt10_fn u (by omega) hu b7 24 194 _ H) zq1 ?_; rintro _ _ _ _ ⟨rfl, rfl, rfl⟩); refine zs1 ?_; refine yq162 ?_; refine T.pv (PV.sliceArr (n := 24) rfl rfl (by kernel_rfl) (by omega) (fun w => sliceArr24 w _ _ (by omega))) Wanted.none rfl rfl ?_
    rw [Int.toNat_natCast]
    have hva : Vec 194 1 (.slice (some ⟨b7, 0, none⟩) (Lib.nDigits u) 24) [(b7, .cells (bytesV (Lib.decDigits u) ++ List.replicate (24 - Lib.nDigits u) (Value.int .u8 0)).toArray 194 (0, 0))] (Lib.nDigits u) (bytesV (Lib.decDigits u)) := by
      have hbl : (bytesV (Lib.decDigits u)).length = Lib.nDigits u * 1 := by rw [bytesV, List.length_map, hdl]; omega
      exact ⟨hbl, .inr ⟨b7, 24, _, rfl, rfl, by omega, by unfold maxLen; omega, by rw [List.length_append, hbl, List.length_replicate]; omega, by rw [← hbl, List.take_left]⟩⟩
    (refine T.appendP (lv := lv) Wanted.none rfl rfl rfl hv (Vec.src [] hva) (bytesV_one _) (by omega) zq1 ?_; intro v27 lv27 hv27 _; obtain ⟨ad27, cap27, rfl⟩ := hv27.val); refine yq0 ?_
    exact T.retW (Lv.finW lv27 zq4 (RV.tmp rfl rfl) ⟨rfl, by rw [hdl]; exact hv27⟩)
theorem appendInt2_fn (u n : Nat) (hu : u ≤ 9223372036854775807) (v : Value) (lv : List (Nat × Obj)) (xs : List Value) (H : Hp) (hT : PowT H) (hv : Vec 5 1 v lv n xs) (hn : n ≤ 140737488355000) :
    FnW Tryz.prog 105 #[v, .int .i64 (u : Int), .int .i64 10] H lv (fun r H' l' => H' = H ∧ Vec 5 1 r l' (n + (Lib.decDigits u).length) (xs ++ bytesV (Lib.decDigits u))) := by
  obtain ⟨adv, capv, rfl⟩ := hv.val
  have ha := appendUint_fn u n (by omega) (.slice adv n capv) lv xs H hT hv hn
  refine FnW.of_T (vs := [.slice adv n capv, .int .i64 (u : Int), .int .i64 10]) Tryz.func105 rfl rfl fun w => ?_
  have hw : IntKind.wrap .u64 (u : Int) = (u : Int) := by
    unfold IntKind.wrap
    simp only [IntKind.bits, IntKind.signed]
    simp
    omega
  refine zs3 ?_; refine yq56 ?_; refine sv (PV.convK rfl) ?_
  rw [hw]
  refine yq127 ?_; refine yq3 ?_; refine yq26 ?_; refine yq137 ?_; refine sm ?_; (refine T.callW Wanted.none rfl rfl ha zq1 ?_; rintro _ _ lv2 _ ⟨rfl, hv2⟩); refine yq0 ?_
  exact T.retW (Lv.finW lv2 zq4 (RV.tmp rfl rfl) ⟨rfl, hv2⟩)
theorem appendInt_fn (u n : Nat) (hu : u ≤ 9223372036854775807) (v : Value) (lv : List (Nat × Obj)) (xs : List Value) (H : Hp) (hT : PowT H) (hv : Vec 5 1 v lv n xs) (hn : n ≤ 140737488355000) :
    FnW Tryz.prog 81 #[v, .int .i64 (u : Int), .int .i64 10] H lv (fun r H' l' => H' = H ∧ Vec 5 1 r l' (n + (Lib.decDigits u).length) (xs ++ bytesV (Lib.decDigits u))) := by
  obtain ⟨adv, capv, rfl⟩ := hv.val
  have ha := appendInt2_fn u n hu (.slice adv n capv) lv xs H hT hv hn
  refine FnW.of_T (vs := [.slice adv n capv, .int .i64 (u : Int), .int .i64 10]) Tryz.func81 rfl rfl fun w => ?_; refine zs3 ?_; refine yq56 ?_; refine yq162 ?_; (refine T.callW Wanted.none rfl rfl ha zq1 ?_; rintro _ _ lv2 _ ⟨rfl, hv2⟩); refine yq0 ?_
  exact T.retW (Lv.finW lv2 zq4 (RV.tmp rfl rfl) ⟨rfl, hv2⟩)
structure JnG where
  i : Nat
  v : Value
  lv : List (Nat × Obj)
theorem joinL_take (ks : List ByteArray) {i : Nat} {k : ByteArray} (h : ks[i]? = some k) : joinL (ks.take (i + 1)) = joinL (ks.take i) ++ Lib.decDigits k.size ++ [32] ++ k.data.toList := by
  rw [List.take_add_one, h, joinL_append]
  simp [joinL]
theorem joinL_le (ks : List ByteArray) (i : Nat) : (joinL (ks.take i)).length ≤ (joinL ks).length := by
  have : joinL ks = joinL (ks.take i) ++ joinL (ks.drop i) := by rw [← joinL_append, List.take_append_drop]
  rw [this, List.length_append]; omega
set_option maxHeartbeats 1000000 in
theorem join_fn (ks : List ByteArray) (v : Value) (H : Hp) (hT : PowT H) (hv : StL H v ks) (hl : ks.length ≤ 1000) (hb : (joinL ks).length ≤ 140737488350000) : Fn Tryz.prog 43 #[v] H (fun u _ => u = .string (joinB ks)) := by
  obtain ⟨av, cv, rfl⟩ := hv.len
  refine Fn.of_T (vs := [.slice av ks.length cv]) Tryz.func43 rfl rfl fun w => ?_; refine zs3 ?_; refine yq23 ?_; refine yq0 ?_; refine yq112 ?_; refine T.loopK [(7, Value.int IntKind.i64 (↑ks.length : Int)), (6, Value.slice av ks.length cv)] zq8 (γ := JnG) (fun g => g.i ≤ ks.length ∧ Vec 5 1 g.v g.lv (joinL (ks.take g.i)).length (bytesV (joinL (ks.take g.i)))) (fun g => [(8, .int .i64 (g.i : Int)), (3, g.v)]) (fun g => g.lv) (fun _ => H) (fun g => ks.length - g.i) ⟨0, .slice none 0 0, []⟩ ⟨by simp, Vec.nil _ _⟩ zq8 (by repeat (first | exact Sel.refl _ | exact Sel.nil | (refine Sel.cons zq1 ?_) | (refine Sel.app zq1 ?_) | exact Sel.one zq1)) rfl ?_
  rintro ⟨i, v3, lv3⟩ ⟨j1, j2⟩
  dsimp only at j1 j2 ⊢
  obtain ⟨ad3, cap3, rfl⟩ := j2.val
  by_cases hi : i < ks.length
  · obtain ⟨b1, off1, k, rfl, hix, hsub⟩ := RowL.get encT_len hv hi
    unfold encT at hsub
    have htk := joinL_take ks hix
    have hle := joinL_le ks (i + 1)
    have hll := congrArg List.length htk
    simp only [List.length_append, List.length_singleton, Array.length_toList] at hll
    have hks : k.data.size = k.size := rfl
    have hai := appendInt_fn k.size (joinL (ks.take i)).length (by omega) (.slice ad3 (joinL (ks.take i)).length cap3) lv3 (bytesV (joinL (ks.take i))) H hT j2 (by omega)
    refine yq82 ?_; refine yq15 ?_; refine yq56 ?_; refine sm ?_; refine sv (PV.lenStr rfl) ?_; (refine T.callW Wanted.none rfl rfl hai zq1 ?_; rintro _ _ lv15 _ ⟨rfl, hv15⟩; obtain ⟨ad15, cap15, rfl⟩ := hv15.val); (refine T.buildSlice Wanted.none rfl rfl zq11 (by exact rfl) (by exact rfl) ?_; intro b16); (refine T.appendP (lv := lv15) Wanted.none rfl rfl rfl hv15 (Src.cells (m := 1) (ys := [.int .u8 32]) (.own zq2) rfl rfl) (by intro v hv; rw [List.mem_singleton] at hv; subst hv; rfl) (by omega) zq1 ?_; intro v17 lv17 hv17 _; obtain ⟨ad17, cap17, rfl⟩ := hv17.val); refine sa ?_; refine zs2 ?_; refine yq162 ?_; (refine T.appendP (lv := lv17) Wanted.none rfl rfl rfl hv17 Src.str (bytesV_one _) (by omega) zq1 ?_; intro v20 lv20 hv20 _; obtain ⟨ad20, cap20, rfl⟩ := hv20.val); refine yq0 ?_; refine yq61 ?_
    have e1 : (joinL (ks.take i)).length + (Lib.decDigits k.size).length + 1 + k.size = (joinL (ks.take (i + 1))).length := by omega
    have e2 : bytesV (joinL (ks.take i)) ++ bytesV (Lib.decDigits k.size) ++ [Value.int .u8 32] ++ bytesV k.data.toList = bytesV (joinL (ks.take (i + 1))) := by rw [htk]; simp [bytesV]
    rw [e1] at hv20 ⊢
    rw [e2] at hv20
    exact T.nextP ⟨i + 1, _, lv20⟩ ⟨by dsimp only; omega, hv20⟩ (by dsimp only; omega) zq8 (by repeat (first | exact Sel.refl _ | exact Sel.nil | (refine Sel.cons zq1 ?_) | (refine Sel.app zq1 ?_) | exact Sel.one zq1)) rfl
  · rw [List.take_of_length_le (by omega)] at j2 ⊢
    refine yq74 ?_; refine yq2 ?_; refine sv (PV.bytesStr (bs := joinL ks) rfl (Vec.srcE [] j2) ⟨_, _, rfl⟩) ?_; refine yq0 ?_
    exact T.retF (Lv.fin (RV.tmp rfl rfl) rfl)
end Go.Proofs.YthacphfjchpoaaaGreatDoor
namespace Go.Proofs.YthacphfjchpoaaaGreatDoor
open Go.RowKit

structure Rw where
  kv : Value
  ks : List ByteArray
  n : Int
def rwV (r : Rw) : Value := .agg #[r.kv, .int .i64 r.n]
def encRw (r : Rw) : List Value := [r.kv, .int .i64 r.n]
def rwK (r : Rw) : RK := (r.ks, r.n)
theorem encRw_len (r : Rw) : (encRw r).length = 2 := rfl
def RwOk (H : Hp) (r : Rw) : Prop := StL H r.kv r.ks ∧ r.ks.length ≤ 1000 ∧ (joinL r.ks).length ≤ 140737488350000
def RwL (H : Hp) (v : Value) (l : List Rw) : Prop := SlR H 2 v l.length (l.flatMap encRw) ∧ ∀ r ∈ l, RwOk H r
theorem RwOk.mono {H H' : Hp} {r : Rw} (h : RwOk H r) (hl : H.le H') : RwOk H' r := ⟨h.1.mono hl, h.2⟩
theorem RwL.mono {H H' : Hp} {v : Value} {l : List Rw} (h : RwL H v l) (hl : H.le H') : RwL H' v l := ⟨h.1.mono hl, fun r hr => (h.2 r hr).mono hl⟩
theorem one_encRw {H : Hp} {r : Rw} (h : RwOk H r) : ∀ v ∈ encRw r, v.oneCell' = true := by
  intro v hv
  obtain ⟨a, c, e⟩ := h.1.len
  simp only [encRw, List.mem_cons, List.not_mem_nil, or_false] at hv
  rcases hv with rfl | rfl
  · rw [e]; rfl
  · rfl
theorem isNaNS_fn (a : ByteArray) (H : Hp) : Fn Tryz.prog 133 #[.string a] H (fun v _ => v = .bool false) := by
  refine Fn.of_T (vs := [.string a]) Tryz.func133 rfl rfl fun w => ?_
  have h : decide (a ≠ a) = false := by simp
  refine zs3 ?_; refine yq56 ?_; refine sm ?_; refine sv (PV.sneq rfl rfl) ?_; refine yq0 ?_
  exact T.retF (Lv.fin (RV.tmp rfl rfl) (by rw [h]))
theorem cmpCompareS_fn (a b : ByteArray) (H : Hp) : Fn Tryz.prog 106 #[.string a, .string b] H (fun v _ => v = .int .i64 (cS a b)) := by
  refine Fn.of_T (vs := [.string a, .string b]) Tryz.func106 rfl rfl fun w => ?_
  have hb := bLess_cmp a.data.toList b.data.toList
  change _ = decide (cS a b < 0) at hb
  rcases cS_range a b with h | h | h
  · rw [h] at hb ⊢
    change _ = true at hb
    refine zs3 ?_; refine yq56 ?_; refine T.callV Wanted.none rfl rfl (isNaNS_fn _ H) ?_; refine yq56 ?_; refine T.callV Wanted.none rfl rfl (isNaNS_fn _ H) ?_; refine yq127 ?_; refine yq92 ?_; refine yq14 ?_; refine yq92 ?_; refine yq14 ?_; refine sm ?_; refine sv (PV.slss rfl rfl) ?_; refine so ?_; refine T.condT rfl (by assumption) ?_; refine yq25 ?_
    exact T.retF (Lv.fin (RV.tmp rfl rfl) rfl)
  · have he := cS_eq h
    rw [h] at hb ⊢
    change _ = false at hb
    have h2 : (!(Op.bytesLess a.data.toList b.data.toList || decide (a = b))) = false := by rw [hb, he]; simp
    refine zs3 ?_; refine yq56 ?_; refine T.callV Wanted.none rfl rfl (isNaNS_fn _ H) ?_; refine yq56 ?_; refine T.callV Wanted.none rfl rfl (isNaNS_fn _ H) ?_; refine yq127 ?_; refine yq92 ?_; refine yq14 ?_; refine yq92 ?_; refine yq14 ?_; refine sm ?_; refine sv (PV.slss rfl rfl) ?_; refine so ?_; refine yq108 ?_; refine yq14 ?_; refine sm ?_; refine sv (PV.sgtr rfl rfl) ?_; refine so ?_; refine yq108 ?_; refine zs3 ?_
    refine yq0 ?_
    exact T.retF (Lv.fin (RV.tmp rfl rfl) rfl)
  · have he : ¬ a = b := by rintro rfl; rw [cS_self] at h; cases h
    rw [h] at hb ⊢
    change _ = false at hb
    have h2 : (!(Op.bytesLess a.data.toList b.data.toList || decide (a = b))) = true := by rw [hb]; simp [he]
    refine zs3 ?_; refine yq56 ?_; refine T.callV Wanted.none rfl rfl (isNaNS_fn _ H) ?_; refine yq56 ?_; refine T.callV Wanted.none rfl rfl (isNaNS_fn _ H) ?_; refine yq127 ?_; refine yq92 ?_; refine yq14 ?_; refine yq92 ?_; refine yq14 ?_; refine sm ?_; refine sv (PV.slss rfl rfl) ?_; refine so ?_; refine yq108 ?_; refine yq14 ?_; refine sm ?_; refine sv (PV.sgtr rfl rfl) ?_; refine so ?_; refine T.condT rfl (by assumption) ?_; refine zs3 ?_; refine sa ?_
    refine so ?_
    exact T.retF (Lv.fin (RV.tmp rfl rfl) rfl)
theorem cL_drop {a b : List ByteArray} {i : Nat} {x y : ByteArray} (hx : a[i]? = some x) (hy : b[i]? = some y) : cL (a.drop i) (b.drop i) = if cS x y ≠ 0 then cS x y else cL (a.drop (i + 1)) (b.drop (i + 1)) := by
  rw [List.drop_eq_getElem_cons (List.getElem?_eq_some_iff.1 hx).1, (List.getElem?_eq_some_iff.1 hx).2, List.drop_eq_getElem_cons (List.getElem?_eq_some_iff.1 hy).1, (List.getElem?_eq_some_iff.1 hy).2]
  rfl
theorem cL_nil (b : List ByteArray) : cL [] b = if 0 < b.length then -1 else 0 := by cases b <;> simp [cL]
theorem cL_nil2 {a : List ByteArray} (h : 0 < a.length) : cL a [] = 1 := by cases a <;> simp_all [cL]
set_option maxHeartbeats 1000000 in
theorem cmpStrs_fn (a b : List ByteArray) (va vb : Value) (H : Hp) (ha : StL H va a) (hb : StL H vb b) (hla : a.length ≤ 9223372036854775807) (hlb : b.length ≤ 9223372036854775807) : Fn Tryz.prog 82 #[va, vb] H (fun u _ => u = .int .i64 (cL a b)) := by
  obtain ⟨ada, capa, rfl⟩ := ha.len
  obtain ⟨adb, capb, rfl⟩ := hb.len
  refine Fn.of_T (vs := [.slice ada a.length capa, .slice adb b.length capb]) Tryz.func82 rfl rfl fun w => ?_; refine yq25 ?_; refine yq112 ?_; refine T.loopK [(10, Value.int IntKind.i64 (↑a.length : Int)), (9, Value.slice ada a.length capa), (0, Value.slice ada a.length capa), (1, Value.slice adb b.length capb)] zq8 (γ := Nat) (fun i => i ≤ a.length ∧ i ≤ b.length ∧ cL (a.drop i) (b.drop i) = cL a b) (fun i => [(11, .int .i64 (i : Int))]) (fun _ => []) (fun _ => H) (fun i => a.length - i) 0 ⟨by simp, by simp, rfl⟩ zq8 (by repeat (first | exact Sel.refl _ | exact Sel.nil | (refine Sel.cons zq1 ?_) | (refine Sel.app zq1 ?_) | exact Sel.one zq1)) rfl ?_
  rintro i ⟨i1, i2, i3⟩
  by_cases hi : i < a.length
  · obtain ⟨b1, off1, x, rfl, hx, hsub1⟩ := RowL.get encT_len ha hi
    by_cases hj : i < b.length
    · obtain ⟨b2, off2, y, hye, hy, hsub2⟩ := RowL.get encT_len hb hj
      subst hye
      unfold encT at hsub1 hsub2
      rw [cL_drop hx hy] at i3
      have hc := cmpCompareS_fn x y H
      by_cases h1 : cS x y = 0
      · rw [if_neg (by omega)] at i3
        refine yq87 ?_; refine yq15 ?_; refine yq55 ?_; refine yq14 ?_; refine yq83 ?_; refine sv (PV.geq rfl rfl) ?_; refine yq88 ?_; refine yq137 ?_; refine yq15 ?_; refine yq56 ?_; refine sm ?_; refine T.callV Wanted.none rfl rfl (hc) ?_; refine yq147 ?_; refine so ?_; refine sd rfl (by omega) ?_
        refine T.skip ?_; refine yq61 ?_
        exact T.nextP (i + 1) ⟨by omega, by omega, i3⟩ (by omega) zq8 (by repeat (first | exact Sel.refl _ | exact Sel.nil | (refine Sel.cons zq1 ?_) | (refine Sel.app zq1 ?_) | exact Sel.one zq1)) rfl
      · rw [if_pos h1] at i3
        refine yq87 ?_; refine yq15 ?_; refine yq55 ?_; refine yq14 ?_; refine yq83 ?_; refine sv (PV.geq rfl rfl) ?_; refine yq88 ?_; refine yq137 ?_; refine yq15 ?_; refine yq56 ?_; refine sm ?_; refine T.callV Wanted.none rfl rfl (hc) ?_; refine yq147 ?_; refine yq46 ?_
        refine yq140 ?_
        exact T.retF (Lv.fin (RV.tmp rfl rfl) (by rw [← i3]))
    · unfold encT at hsub1
      rw [List.drop_of_length_le (by omega : b.length ≤ i), cL_nil2 (by rw [List.length_drop]; omega)] at i3
      refine yq87 ?_; refine yq15 ?_; refine yq55 ?_; refine yq14 ?_; refine yq83 ?_; refine sv (PV.geq rfl rfl) ?_; refine yq46 ?_; refine yq25 ?_
      exact T.retF (Lv.fin (RV.tmp rfl rfl) (by rw [← i3]))
  · rw [List.drop_of_length_le (by omega : a.length ≤ i), cL_nil, List.length_drop] at i3
    by_cases hj : a.length < b.length
    · rw [if_pos (by omega)] at i3
      refine yq74 ?_; refine yq27 ?_; refine yq83 ?_; refine yq3 ?_; refine sc rfl (by omega) ?_; refine yq25 ?_
      exact T.retF (Lv.fin (RV.tmp rfl rfl) (by rw [← i3]))
    · rw [if_neg (by omega)] at i3
      refine yq74 ?_; refine yq27 ?_; refine yq83 ?_; refine yq3 ?_; refine yq22 ?_; refine yq25 ?_
      exact T.retF (Lv.fin (RV.tmp rfl rfl) (by rw [← i3]))
theorem or_cR (a b : Rw) : orI [cmpI b.n a.n, cL a.ks b.ks] = cR (rwK a) (rwK b) := by
  unfold cR rwK orI orI orI cmpI
  dsimp only
  by_cases h1 : b.n < a.n
  · simp [h1]
  · by_cases h2 : a.n < b.n
    · simp [h1, h2]
    · simp [h1, h2]; intro h; exact h.symm
set_option maxHeartbeats 1000000 in
theorem compareR_fn (a b : Rw) (H : Hp) (ha : RwOk H a) (hb : RwOk H b) : Fn Tryz.prog 44 #[rwV a, rwV b] H (fun u _ => u = .int .i64 (cR (rwK a) (rwK b))) := by
  obtain ⟨aa, ca, hav⟩ := ha.1.len
  obtain ⟨ab, cb, hbv⟩ := hb.1.len
  have h1 := ha.1
  have h2 := hb.1
  rw [hav] at h1
  rw [hbv] at h2
  unfold rwV
  rw [hav, hbv]
  refine Fn.of_T (vs := [.agg #[.slice aa a.ks.length ca, .int .i64 a.n], .agg #[.slice ab b.ks.length cb, .int .i64 b.n]]) Tryz.func44 rfl rfl fun w => ?_
  have hl1 := ha.2.1
  have hl2 := hb.2.1
  refine zs3 ?_; (refine T.box Wanted.none rfl rfl zq15 ?_; intro b2); (refine T.box Wanted.none rfl rfl zq15 ?_; intro b3); refine yq0 ?_
  (repeat refine sq ?_)
  refine T.regionOl (by kernel_rfl) ?_; refine yq40 ?_; refine TO.take 2 rfl (by kernel_rfl) (by kernel_rfl) (by kernel_rfl) (PV.fieldAddr rfl) Wanted.none rfl rfl ?_; refine TO.take 3 rfl (by kernel_rfl) (by kernel_rfl) (by kernel_rfl) (PV.load1 rfl zq0 rfl) Wanted.none rfl rfl ?_; refine TO.take 5 rfl (by kernel_rfl) (by kernel_rfl) (by kernel_rfl) (PV.fieldAddr rfl) Wanted.none rfl rfl ?_; refine TO.take 6 rfl (by kernel_rfl) (by kernel_rfl) (by kernel_rfl) (PV.load1 rfl zq0 rfl) Wanted.none rfl rfl ?_; refine TO.take 7 rfl (by kernel_rfl) (by kernel_rfl) (by kernel_rfl) (PV.fieldAddr rfl) Wanted.none rfl rfl ?_; refine TO.take 8 rfl (by kernel_rfl) (by kernel_rfl) (by kernel_rfl) (PV.load1 rfl zq0 rfl) Wanted.none rfl rfl ?_; refine TO.step 4 rfl (by kernel_rfl) zq4 zq17 ?_; (refine T.callX Wanted.none rfl rfl (cmpCompare_fn b.n a.n _) ?_; rintro _ rfl); refine yq62 ?_; refine TO.step 9 rfl (by kernel_rfl) zq4 zq17 ?_; (refine T.callX Wanted.none rfl rfl (cmpStrs_fn a.ks b.ks _ _ _ h1 h2 (by omega) (by omega)) ?_; rintro _ rfl); refine yq62 ?_; refine TO.step 10 rfl (by kernel_rfl) zq4 zq17 ?_; (refine T.buildSlice Wanted.none rfl rfl zq11 (by exact rfl) (by exact rfl) ?_; intro b15); refine yq62 ?_; refine TO.step 11 rfl (by kernel_rfl) zq4 zq17 ?_; (refine T.freezeB (b := b15) zq1 ?_; intro H1 l1 j1; refine T.callX Wanted.none rfl rfl (cmpOr_fn [cmpI b.n a.n, cL a.ks b.ks] _ H1 (SlR.lit (n := 2) j1 rfl) (by simp)) ?_; rintro _ rfl); refine yq62 ?_; refine TO.take 12 rfl (by kernel_rfl) (by kernel_rfl) (by kernel_rfl) (PV.assign rfl) Wanted.none rfl rfl ?_; refine TO.done (by kernel_rfl) zq4 zq17 ?_
  exact T.retF (Lv.fin (RV.tmp rfl rfl) (by rw [or_cR]))
end Go.Proofs.YthacphfjchpoaaaGreatDoor
