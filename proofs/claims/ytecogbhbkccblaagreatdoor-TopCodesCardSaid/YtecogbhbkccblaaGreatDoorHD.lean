/- The shelf's contracts, laid at this program (written by the kit's command).
   Own layer: slices.SortFunc at elements of one cell; slices.Sort of strings.
   lexicon: comparing words; finish.
   sort.Search.
   The shelf's contracts, laid at this program (written by the kit's command). -/
import Derived.Shelf.SlSortCmp.NoneTotal
import Derived.Test.YtecogbhbkccblaaGreatDoorProg
import Derived.Shelf.Sort.Plain
import Derived.Shelf.Slices.In.SortNone
import Derived.Lib.Bytealg
import Derived.Shelf.Lays
import Derived.Test.YtecogbhbkccblaaGreatDoorHC
import Derived.Test.YtecogbhbkccblaaGreatDoorGB
set_option maxRecDepth 4000
set_option maxHeartbeats 40000000
set_option linter.all false
namespace Go.Proofs.YtecogbhbkccblaaGreatDoor
open Go.Proofs Go.Shelf

def Tryz.sortZL_ren : Go.Shelf.Ren := ⟨fun | 6 => 59 | 15 => 57 | 14 => 111 | 28 => 109 | 29 => 75 | 20 => 165 | 21 => 166 | 22 => 167 | 23 => 168 | 24 => 169 | 25 => 170 | 26 => 171 | 27 => 172 | 46 => 206 | 47 => 160 | 48 => 161 | 49 => 207 | 50 => 208 | 57 => 225 | n => n, fun | 22 => 27 | 24 => 3 | 25 => 125 | 3 => 3 | 39 => 122 | 0 => 0 | 53 => 136 | 55 => 76 | 4 => 4 | 46 => 176 | 45 => 175 | 50 => 53 | 5 => 5 | 9 => 9 | 66 => 235 | 70 => 239 | 76 => 278 | 77 => 279 | n => n, fun | n => n⟩
theorem Tryz.sortZL : Go.Proofs.SlLaysF.n6 Tryz.prog Tryz.sortZL_ren := {
  mixed := by kernel_rfl,
  f6 := ⟨Tryz.f59.name, by decide, Tryz.func59.trans (congrArg some zK)⟩,
  f14 := ⟨Tryz.f111.name, by decide, Tryz.func111.trans (congrArg some zK)⟩,
  f15 := Tryz.func57.trans (congrArg some zK),
  f20 := ⟨Tryz.f165.name, by decide, Tryz.func165.trans (congrArg some zK)⟩,
  f21 := ⟨Tryz.f166.name, by decide, Tryz.func166.trans (congrArg some zK)⟩,
  f22 := ⟨Tryz.f167.name, by decide, Tryz.func167.trans (congrArg some zK)⟩,
  f23 := ⟨Tryz.f168.name, by decide, Tryz.func168.trans (congrArg some zK)⟩,
  f24 := ⟨Tryz.f169.name, by decide, Tryz.func169.trans (congrArg some zK)⟩,
  f25 := ⟨Tryz.f170.name, by decide, Tryz.func170.trans (congrArg some zK)⟩,
  f26 := ⟨Tryz.f171.name, by decide, Tryz.func171.trans (congrArg some zK)⟩,
  f27 := ⟨Tryz.f172.name, by decide, Tryz.func172.trans (congrArg some zK)⟩,
  f28 := Tryz.func109.trans (congrArg some zK),
  f29 := Tryz.func75.trans (congrArg some zK),
  f46 := ⟨Tryz.f206.name, by decide, Tryz.func206.trans (congrArg some zK)⟩,
  f47 := Tryz.func160.trans (congrArg some zK),
  f48 := Tryz.func161.trans (congrArg some zK),
  f49 := ⟨Tryz.f207.name, by decide, Tryz.func207.trans (congrArg some zK)⟩,
  f50 := ⟨Tryz.f208.name, by decide, Tryz.func208.trans (congrArg some zK)⟩,
  f57 := ⟨Tryz.f225.name, by decide, Tryz.func225.trans (congrArg some zK)⟩,
  t0 := Tryz.underlying0,
  a0 := Tryz.isAgg0,
  z0 := Tryz.sizeOf0,
  v0 := Tryz.zeroValue0,
  t3 := Tryz.underlying3,
  a3 := Tryz.isAgg3,
  z3 := Tryz.sizeOf3,
  v3 := Tryz.zeroValue3,
  t4 := Tryz.underlying4,
  a4 := Tryz.isAgg4,
  z4 := Tryz.sizeOf4,
  v4 := Tryz.zeroValue4,
  t5 := Tryz.underlying5,
  a5 := Tryz.isAgg5,
  z5 := Tryz.sizeOf5,
  v5 := Tryz.zeroValue5,
  t9 := Tryz.underlying9,
  a9 := Tryz.isAgg9,
  z9 := Tryz.sizeOf9,
  v9 := Tryz.zeroValue9,
  t22 := Tryz.underlying27,
  a22 := Tryz.isAgg27,
  z22 := Tryz.sizeOf27,
  v22 := Tryz.zeroValue27,
  a24 := Tryz.isAgg3,
  z24 := Tryz.sizeOf3,
  t25 := Tryz.underlying125,
  a25 := Tryz.isAgg125,
  z25 := Tryz.sizeOf125,
  v25 := Tryz.zeroValue125,
  t39 := Tryz.underlying122,
  a39 := Tryz.isAgg122,
  z39 := Tryz.sizeOf122,
  v39 := Tryz.zeroValue122,
  t45 := Tryz.underlying175,
  a45 := Tryz.isAgg175,
  z45 := Tryz.sizeOf175,
  v45 := Tryz.zeroValue175,
  t46 := Tryz.underlying176,
  a46 := Tryz.isAgg176,
  z46 := Tryz.sizeOf176,
  v46 := Tryz.zeroValue176,
  t50 := Tryz.underlying53,
  a50 := Tryz.isAgg53,
  z50 := Tryz.sizeOf53,
  v50 := Tryz.zeroValue53,
  t53 := Tryz.underlying136,
  a53 := Tryz.isAgg136,
  z53 := Tryz.sizeOf136,
  v53 := Tryz.zeroValue136,
  t55 := Tryz.underlying76,
  a55 := Tryz.isAgg76,
  z55 := Tryz.sizeOf76,
  v55 := Tryz.zeroValue76,
  t66 := Tryz.underlying235,
  a66 := Tryz.isAgg235,
  z66 := Tryz.sizeOf235,
  v66 := Tryz.zeroValue235,
  t70 := Tryz.underlying239,
  a70 := Tryz.isAgg239,
  z70 := Tryz.sizeOf239,
  v70 := Tryz.zeroValue239,
  t76 := Tryz.underlying278,
  a76 := Tryz.isAgg278,
  z76 := Tryz.sizeOf278,
  v76 := Tryz.zeroValue278,
  t77 := Tryz.underlying279,
  a77 := Tryz.isAgg279,
  z77 := Tryz.sizeOf279,
  v77 := Tryz.zeroValue279 }
end Go.Proofs.YtecogbhbkccblaaGreatDoor
namespace Go.Proofs.YtecogbhbkccblaaGreatDoor
open Go.RowKit

section
variable {α : Type} [Inhabited α]
abbrev e1 (enc : α → Value) (x : α) : List Value := [enc x]
theorem flat_one (enc : α → Value) (d : Array α) (t : Nat) (h : t < d.size) : (Go.Sort.flatK (e1 enc) 1 d)[t]! = enc d[t]! := by
  rw [Go.Sort.get_flatK (e1 enc) 1 d t zO, Nat.div_one, Nat.mod_one]; rfl
theorem putRow_one (enc : α → Value) (w : World) (b off : Nat) (d : Array α) : Go.Sort.putRow enc w b off d = Go.Sort.putRowK (e1 enc) 1 w b off d := by
  unfold Go.Sort.putRowK Go.Sort.putRow
  congr 1
  funext c
  unfold Go.Sort.putCells
  refine Array.ext_getElem? fun k => ?_
  rw [Array.getElem?_mapIdx, Array.getElem?_mapIdx, Go.Sort.size_flatK, Nat.mul_one]
  cases c[k]? with
  | none => rfl
  | some x =>
    simp only [Option.map_some]
    by_cases h : off ≤ k ∧ k < off + d.size
    · rw [if_pos h, if_pos h, flat_one enc d (k - off) zO]; rfl
    · rw [if_neg h, if_neg h]
theorem holds_one {enc : α → Value} {w : World} {b off : Nat} {d : Array α} (h : Go.Sort.HoldsK (e1 enc) 1 w b off d) : Go.Sort.Holds enc w b off d := by
  intro j hj
  have := h j (by rw [Go.Sort.size_flatK, Nat.mul_one]; exact hj)
  rw [flat_one enc d j hj] at this
  exact this
theorem sortW_one (enc : α → Value) (w : World) (b off m : Nat) (d : Array α) (os : Array Obj) : Go.Proofs.sortWorld enc w b off m d os = Go.Proofs.sortWorldK (e1 enc) 1 w b off m d os := by
  unfold Go.Proofs.sortWorld Go.Proofs.sortWorldK
  rw [putRow_one]
end
section
variable {P : Program} {α : Type} [Inhabited α]
theorem own_wd {enc : α → Value} {w : World} {H : Hp} {b el : Nat} {d : List α} {tl : List Value} (hw : Hin H w) (hb : w.heap[b]? = some (.cells (d.flatMap (e1 enc) ++ tl).toArray el (0, 0))) (hHb : H b = none) (m : Nat) (dk : Array α) (os : Array Obj) (hs : dk.size = d.length) : (X0.mk w H (own0 [(b, .cells (d.flatMap (e1 enc) ++ tl).toArray el (0, 0))])).wd [(b, .cells (dk.toList.flatMap (e1 enc) ++ tl).toArray el (0, 0))] H (Go.Proofs.sortWorldK (e1 enc) 1 w b 0 m dk os) := by
  obtain ⟨f1, f2, f3, f4, f5, f6, f7⟩ := sortWorldK_facts (m := m) (enc := e1 enc) (k := 1) (fun _ => rfl) hb dk hs os
  refine ⟨fun p hp => ?_, by simp, fun c o hc => ?_, ⟨f4, f5, f6, f3, f7, fun c hc hp => ?_⟩, Hp.le.refl _, fun _ _ _ => rfl⟩
  · obtain rfl := List.mem_singleton.1 hp
    exact ⟨f1, hHb, fun _ hn => hn (by simp)⟩
  · have hcb : c ≠ b := fun e => by subst e; rw [hHb] at hc; cases hc
    have hlt : c < w.heap.size := (Array.getElem?_eq_some_iff.1 (hw c o hc)).1
    exact (f2 c hlt hcb).trans (hw c o hc)
  · exact f2 c hc (fun e => hp (by subst e; simp))
/-- slices.SortFunc at elements of one cell: some order. -/
theorem sort1_FnW {ρ : Go.Shelf.Ren} (L : Go.Proofs.SlLaysF.n6 P ρ) {enc : α → Value} (h1 : ∀ x, (enc x).oneCell' = true)
    (cf : α → α → Int) (hO : Go.Sort.SWO (Go.Proofs.ltOf cf)) (g : Nat) [hE : Ent P g] (cb : List Value) {H : Hp} {b cap el : Nat} (d : List α) (tl : List Value)
    (hcmp : ∀ x y, Fn P g ([enc x, enc y] ++ cb).toArray H (fun v _ => v = .int .i64 (cf x y))) (hsz : d.length < 4611686018427387904) :
    FnW P (ρ.f 6) #[.slice (some ⟨b, 0, none⟩) d.length cap, .func (.func g) #[] cb.toArray] H [(b, .cells (d.flatMap (e1 enc) ++ tl).toArray el (0, 0))]
      (fun v H' l' => v = .tuple #[] ∧ H' = H ∧ ∃ d' : List α, d'.length = d.length ∧ l' = [(b, .cells (d'.flatMap (e1 enc) ++ tl).toArray el (0, 0))]) := FnW.mk fun w hw => by
  obtain ⟨hb, hHb, _⟩ := hw.own _ List.mem_cons_self
  simp only at hb hHb
  have hlt : b < w.heap.size := (Array.getElem?_eq_some_iff.1 hb).1
  have hwd := fun m dk os hs => own_wd (enc := enc) hw.fro hb hHb m dk os hs
  have hs0 := Go.Proofs.Any.slices_SortFunc L enc h1 cf hO g cb.toArray b 0 cap d.toArray w (fun args w => hE.h args w) (fun m os dk hs x y => ?_) (holds_one (holdsK_of (fun _ => rfl) hb)) hlt (by simpa using hsz)
  · refine callsIn_wide.2 (hs0.mono ?_)
    rintro e w' ⟨rfl, d', n, os, hp, _, rfl⟩
    have hsz' : d'.size = d.length := by rw [hp.1]; simp
    rw [sortW_one]
    exact ⟨_, H, _, rfl, hwd n d' os hsz', rfl, rfl, d'.toList, by simpa using hsz', rfl⟩
  · have hs' : dk.size = d.length := by simpa using hs
    have hW := hwd m dk os hs'
    have hc := (hcmp x y).get _ hW.fro
    have hargs : (([enc x, enc y] ++ cb).toArray : Array Value) = #[enc x, enc y] ++ cb.toArray := by simp
    rw [hargs] at hc
    rw [sortW_one]
    refine (callsIn_wide.1 hc).mono ?_
    rintro e w' ⟨v, H', rfl, _, _, hkp, rfl⟩
    exact ⟨rfl, keep_grow hkp⟩
/-- slices.Sort of strings. -/
theorem sortStr_FnW {ρ : Go.Shelf.Ren} (L : Go.Proofs.Lays.n190 P ρ) {H : Hp} {b cap el : Nat} (d : List (List UInt8)) (tl : List Value) (hsz : d.length < 4611686018427387904) :
    FnW P (ρ.f 190) #[.slice (some ⟨b, 0, none⟩) d.length cap] H [(b, .cells (d.flatMap (e1 Go.Proofs.encStr) ++ tl).toArray el (0, 0))]
      (fun v H' l' => v = .tuple #[] ∧ H' = H ∧ l' = [(b, .cells ((d.mergeSort fun x y => decide (x ≤ y)).flatMap (e1 Go.Proofs.encStr) ++ tl).toArray el (0, 0))]) := FnW.mk fun w hw => by
  obtain ⟨hb, hHb, _⟩ := hw.own _ List.mem_cons_self
  simp only at hb hHb
  have hlt : b < w.heap.size := (Array.getElem?_eq_some_iff.1 hb).1
  have hwd := fun m dk os hs => own_wd (enc := Go.Proofs.encStr) hw.fro hb hHb m dk os hs
  have hs0 := Go.Proofs.Any.slices_Sort_string L b 0 cap d w (holds_one (holdsK_of (fun _ => rfl) hb)) hlt hsz
  refine callsIn_wide.2 (hs0.mono ?_)
  rintro e w' ⟨rfl, n, os, rfl⟩
  have := hwd n (d.mergeSort fun x y => decide (x ≤ y)).toArray os (by simp [List.length_mergeSort])
  rw [← sortW_one] at this
  exact ⟨_, H, _, rfl, this, rfl, rfl, rfl⟩
end
end Go.Proofs.YtecogbhbkccblaaGreatDoor
namespace Go.Proofs.YtecogbhbkccblaaGreatDoor
open Go.RowKit


def cmpS (a b : ByteArray) : Int := Lib.compareBytes a.data.toList b.data.toList
theorem PV.callExt {P : Program} {e : Env} {l : List (Nat × Obj)} {H : Hp} {f : FuncId} {xs : List Operand} {vs : List Value} {v : Value} {ts : Array TypeId} {dst : Option Tmp} {ty : TypeId} {pos : String} {after : Array Edge} {gd : Option (Nat × Bool)} (hv : evL e xs = some vs) (h : ∀ w, (callFunc f vs.toArray).run P w = .ok (.value v) w) :
    PV P e l H ⟨dst, .call ⟨.value (.func f), xs.toArray, ts⟩, ty, pos, after, gd⟩ v := PV.mk fun X D a w ha hw => by
  have := evL_map ha xs vs hv
  have hE' := h w
  simp [execOp, resolve, Act.eval, Deferred.ofValue, invoke, List.map_toArray, this, hE']
theorem cmpExt (s t : ByteArray) (w : World) : (callFunc 173 [Value.string s, .string t].toArray).run Tryz.prog w = .ok (.value (.int .i64 (cmpS s t))) w := by
  rw [run_callFunc_extern Tryz.func173 zK zK zK (e := Extern.BytealgCompare.compare) zK, Lib.run_compareString]
  rfl
theorem cmpString_fn (a b : ByteArray) (H : Hp) : Fn Tryz.prog 112 #[.string a, .string b] H (fun u _ => u = .int .i64 (cmpS a b)) := by
  refine Fn.of_T (vs := [.string a, .string b]) Tryz.func112 rfl rfl fun w => ?_; refine J8 ?_; refine sv (PV.callExt rfl (cmpExt a b)) ?_; refine J2 ?_
  exact T.retF (Lv.fin (RV.tmp rfl rfl) rfl)
theorem strCompare_fn (a b : ByteArray) (H : Hp) : Fn Tryz.prog 61 #[.string a, .string b] H (fun u _ => u = .int .i64 (cmpS a b)) := by
  have h := cmpString_fn a b H
  refine Fn.of_T (vs := [.string a, .string b]) Tryz.func61 rfl rfl fun w => ?_; refine J8 ?_; refine T.callV Wanted.none rfl rfl (h) ?_; refine J2 ?_
  exact T.retF (Lv.fin (RV.tmp rfl rfl) rfl)
theorem cmpB_lt : ∀ a b : List UInt8, Lib.compareBytes a b < 0 ↔ Op.bytesLess a b = true
  | [], [] => by simp [Lib.compareBytes, Op.bytesLess]
  | [], _ :: _ => by simp [Lib.compareBytes, Op.bytesLess]
  | _ :: _, [] => by simp [Lib.compareBytes, Op.bytesLess]
  | x :: a, y :: b => by
    have ih := cmpB_lt a b
    rw [bl_cons]
    unfold Lib.compareBytes
    rcases Nat.lt_trichotomy x.toNat y.toNat with h | h | h
    · simp [UInt8.lt_iff_toNat_lt, h]
    · have : x = y := UInt8.toNat_inj.1 h
      subst this
      simp [UInt8.lt_iff_toNat_lt, ih]
    · have h2 : ¬ x.toNat < y.toNat := by omega
      have h3 : x ≠ y := fun e => by subst e; omega
      simp [UInt8.lt_iff_toNat_lt, h, h2, h3]
theorem cmpS_swo {α : Type} (g : α → ByteArray) : Go.Sort.SWO (Go.Proofs.ltOf fun x y => cmpS (g x) (g y)) := by
  have hl : ∀ x y, Go.Proofs.ltOf (fun x y => cmpS (g x) (g y)) x y = Op.bytesLess (g x).data.toList (g y).data.toList := fun x y => by
    unfold Go.Proofs.ltOf
    rw [show decide (cmpS (g x) (g y) < 0) = decide (Op.bytesLess (g x).data.toList (g y).data.toList = true) from decide_eq_decide.2 (cmpB_lt _ _)]
    simp
  refine ⟨fun x => ?_, fun x y z h1 h2 => ?_, fun x y z h1 h2 => ?_⟩
  · rw [hl, bl_irr]
  · rw [hl] at *; exact bl_trans h1 h2
  · rw [hl] at *
    rw [Bool.eq_false_iff]
    intro h3
    rcases bl_tri (g x).data.toList (g y).data.toList with h | h | h
    · rw [h] at h1; cases h1
    · rw [h] at h3; rw [h3] at h2; cases h2
    · have := bl_trans h h3
      rw [this] at h2; cases h2

end Go.Proofs.YtecogbhbkccblaaGreatDoor
namespace Go.Proofs.YtecogbhbkccblaaGreatDoor
open Go.RowKit


section
variable {P : Program} {X : Cx} {e : Env} {l : List (Nat × Obj)} {H : Hp} {D : List Deferred} {k : List It} {all : Array Oper} {rest : List Oper} {dst : Option Tmp} {ty : TypeId} {pos : String} {after : Array Edge} {gd : Option (Nat × Bool)}
/-- a call of a closure that works on blocks of the caller's -/
theorem T.callFCW {d : Nat} {f : FuncId} [hE : Ent P f] {x : Operand} {xs : List Operand} {ts : Array TypeId} {vs cap : List Value} {l0 r : List (Nat × Obj)} {R : Value → Hp → List (Nat × Obj) → Prop} (hw : Wanted e all ⟨some d, .call ⟨.value x, xs.toArray, ts⟩, ty, pos, after, gd⟩) (hN : Nat.blt d X.N = true)
    (hx : evE e x = some (.func (.func f) #[] cap.toArray)) (hv : evL e xs = some vs) (hf : FnW P f (vs ++ cap).toArray H l0 R) (hpk : Pick l l0 r)
    (h : ∀ v H' l', H.le H' → R v H' l' → T P X ((d, v) :: e) (l' ++ r) H' D (.ops all rest :: k)) :
    T P X e l H D (.ops all (⟨some d, .call ⟨.value x, xs.toArray, ts⟩, ty, pos, after, gd⟩ :: rest) :: k) :=
  T.enterW (d := d) hw rfl hN (fun a w ha => by
    have := evL_map ha xs vs hv
    have hE' := hE.h (vs ++ cap).toArray w
    simp [execOp, resolve, ha.eval hx, Deferred.ofValue, invoke, List.map_toArray, this]
    simpa using hE') hpk hf h
end
structure SeG where
  i : Nat
  j : Nat
theorem search_fn (n m : Nat) (hm : m ≤ n) (hn : n ≤ 1000000) (lo : List (Nat × Obj)) (H : Hp) (g : Nat) [Ent Tryz.prog g] (cb : List Value) (hf : ∀ i, i < n → FnW Tryz.prog g ([Value.int .i64 (i : Int)] ++ cb).toArray H lo (fun u H' l' => u = .bool (decide (m ≤ i)) ∧ H' = H ∧ l' = lo)) :
    FnW Tryz.prog 62 #[.int .i64 (n : Int), .func (.func g) #[] cb.toArray] H lo (fun u H' l' => u = .int .i64 (m : Int) ∧ H' = H ∧ l' = lo) := by
  refine FnW.of_T (vs := [.int .i64 (n : Int), .func (.func g) #[] cb.toArray]) Tryz.func62 rfl rfl fun w => ?_; refine J12 ?_; refine T.loopK [(1, Value.func (Fn.func g) #[] cb.toArray)] zq8 (γ := SeG) (fun s => s.i ≤ m ∧ m ≤ s.j ∧ s.j ≤ n) (fun s => [(5, .int .i64 (s.i : Int)), (6, .int .i64 (s.j : Int))]) (fun _ => lo) (fun _ => H) (fun s => s.j - s.i) ⟨0, n⟩ ⟨Nat.zero_le _, hm, Nat.le_refl _⟩ zq8 zq23 rfl ?_
  rintro ⟨i, j⟩ ⟨h1, h2, h3⟩
  dsimp only at h1 h2 h3 ⊢
  by_cases h : i < j
  · obtain ⟨q, hq⟩ : ∃ q, q = (i + j) / 2 := ⟨_, rfl⟩
    have hd : decide ((i : Int) < (j : Int)) = true := decide_eq_true zO
    have hff := hf q zO
    have hsh : shrI .u64 ((i : Int) + (j : Int)) 1 = (q : Int) := by
      have h1 := shr64 (x := i + j) (i := 1) zO
      rw [Nat.shiftRight_eq_div_pow, Nat.pow_one, ← hq] at h1
      rw [show (i : Int) + (j : Int) = ((i + j : Nat) : Int) by omega]
      exact h1
    by_cases hb : m ≤ q
    · have hdb : decide (m ≤ q) = true := decide_eq_true hb
      rw [hdb] at hff
      have hsh := hsh
      refine yq59 ?_; refine J7 ?_; refine yq25 ?_; refine J7 ?_; (refine T.callFCW (cap := cb) Wanted.none rfl rfl rfl hff (by first | exact Pick.allA | exact Pick.all) ?_; rintro _ H20 l9 _ ⟨rfl, hH20, hl9⟩; have hH20 := hH20.symm; subst hH20; have hl9 := hl9.symm; subst hl9); refine J8 ?_
      refine T.nextP ⟨i, q⟩ ⟨h1, hb, by dsimp only; omega⟩ zE zq8 (Sel.one Pick.allA) rfl
    · have hdb : decide (m ≤ q) = false := decide_eq_false hb
      rw [hdb] at hff
      have hsh := hsh
      refine yq59 ?_; refine J7 ?_; refine yq25 ?_; refine J7 ?_; (refine T.callFCW (cap := cb) Wanted.none rfl rfl rfl hff (by first | exact Pick.allA | exact Pick.all) ?_; rintro _ H20 l9 _ ⟨rfl, hH20, hl9⟩; have hH20 := hH20.symm; subst hH20; have hl9 := hl9.symm; subst hl9); refine J9 ?_
      refine T.nextP ⟨q + 1, j⟩ ⟨by dsimp only; omega, h2, h3⟩ zE zq8 (Sel.one Pick.allA) rfl
  · have hd : decide ((i : Int) < (j : Int)) = false := decide_eq_false zO
    obtain rfl : i = m := by omega
    refine yq66 ?_; refine J6 ?_
    exact T.retW (Lv.finW lo (List.Sublist.refl _) (RV.tmp rfl rfl) ⟨rfl, rfl, rfl⟩)

end Go.Proofs.YtecogbhbkccblaaGreatDoor
namespace Go.Proofs.YtecogbhbkccblaaGreatDoor
open Go.Proofs Go.Shelf

def Tryz.sortStrL_ren : Go.Shelf.Ren := ⟨fun | 190 => 26 | 125 => 57 | 258 => 56 | 128 => 109 | 129 => 75 | 302 => 100 | 303 => 101 | 304 => 102 | 305 => 103 | 306 => 104 | 307 => 105 | 308 => 106 | 309 => 107 | 310 => 108 | 333 => 159 | 329 => 160 | 330 => 161 | 334 => 162 | 335 => 163 | 336 => 164 | 344 => 205 | n => n, fun | 31 => 28 | 9 => 9 | 3 => 3 | 46 => 122 | 0 => 0 | 51 => 136 | 53 => 76 | 4 => 4 | 183 => 176 | 182 => 175 | 131 => 53 | 5 => 5 | 218 => 235 | 222 => 239 | 228 => 278 | 229 => 279 | n => n, fun | n => n⟩
theorem Tryz.sortStrL : Go.Proofs.Lays.n190 Tryz.prog Tryz.sortStrL_ren := {
  mixed := by kernel_rfl,
  f125 := Tryz.func57.trans (congrArg some zK),
  f128 := Tryz.func109.trans (congrArg some zK),
  f129 := Tryz.func75.trans (congrArg some zK),
  f190 := Tryz.func26.trans (congrArg some zK),
  f258 := Tryz.func56.trans (congrArg some zK),
  f302 := Tryz.func100.trans (congrArg some zK),
  f303 := Tryz.func101.trans (congrArg some zK),
  f304 := Tryz.func102.trans (congrArg some zK),
  f305 := Tryz.func103.trans (congrArg some zK),
  f306 := Tryz.func104.trans (congrArg some zK),
  f307 := Tryz.func105.trans (congrArg some zK),
  f308 := Tryz.func106.trans (congrArg some zK),
  f309 := Tryz.func107.trans (congrArg some zK),
  f310 := Tryz.func108.trans (congrArg some zK),
  f329 := Tryz.func160.trans (congrArg some zK),
  f330 := Tryz.func161.trans (congrArg some zK),
  f333 := Tryz.func159.trans (congrArg some zK),
  f334 := Tryz.func162.trans (congrArg some zK),
  f335 := Tryz.func163.trans (congrArg some zK),
  f336 := Tryz.func164.trans (congrArg some zK),
  f344 := Tryz.func205.trans (congrArg some zK),
  t0 := Tryz.underlying0,
  a0 := Tryz.isAgg0,
  z0 := Tryz.sizeOf0,
  v0 := Tryz.zeroValue0,
  t3 := Tryz.underlying3,
  a3 := Tryz.isAgg3,
  z3 := Tryz.sizeOf3,
  v3 := Tryz.zeroValue3,
  t4 := Tryz.underlying4,
  a4 := Tryz.isAgg4,
  z4 := Tryz.sizeOf4,
  v4 := Tryz.zeroValue4,
  t5 := Tryz.underlying5,
  a5 := Tryz.isAgg5,
  z5 := Tryz.sizeOf5,
  v5 := Tryz.zeroValue5,
  t9 := Tryz.underlying9,
  a9 := Tryz.isAgg9,
  z9 := Tryz.sizeOf9,
  v9 := Tryz.zeroValue9,
  t31 := Tryz.underlying28,
  a31 := Tryz.isAgg28,
  z31 := Tryz.sizeOf28,
  v31 := Tryz.zeroValue28,
  t46 := Tryz.underlying122,
  a46 := Tryz.isAgg122,
  z46 := Tryz.sizeOf122,
  v46 := Tryz.zeroValue122,
  t51 := Tryz.underlying136,
  a51 := Tryz.isAgg136,
  z51 := Tryz.sizeOf136,
  v51 := Tryz.zeroValue136,
  t53 := Tryz.underlying76,
  a53 := Tryz.isAgg76,
  z53 := Tryz.sizeOf76,
  v53 := Tryz.zeroValue76,
  t131 := Tryz.underlying53,
  a131 := Tryz.isAgg53,
  z131 := Tryz.sizeOf53,
  v131 := Tryz.zeroValue53,
  t182 := Tryz.underlying175,
  a182 := Tryz.isAgg175,
  z182 := Tryz.sizeOf175,
  v182 := Tryz.zeroValue175,
  t183 := Tryz.underlying176,
  a183 := Tryz.isAgg176,
  z183 := Tryz.sizeOf176,
  v183 := Tryz.zeroValue176,
  t218 := Tryz.underlying235,
  a218 := Tryz.isAgg235,
  z218 := Tryz.sizeOf235,
  v218 := Tryz.zeroValue235,
  t222 := Tryz.underlying239,
  a222 := Tryz.isAgg239,
  z222 := Tryz.sizeOf239,
  v222 := Tryz.zeroValue239,
  t228 := Tryz.underlying278,
  a228 := Tryz.isAgg278,
  z228 := Tryz.sizeOf278,
  v228 := Tryz.zeroValue278,
  t229 := Tryz.underlying279,
  a229 := Tryz.isAgg279,
  z229 := Tryz.sizeOf279,
  v229 := Tryz.zeroValue279 }
end Go.Proofs.YtecogbhbkccblaaGreatDoor
