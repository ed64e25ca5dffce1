/- Own layer: slices.SortFunc over a slice of the walk's own, by the library's proved contract.
   The shelf's contracts, laid at this program (written by the kit's command).
   lines: comparing numbers; the closures of Sample.
   lines: samples: the first of a sorted list are those with few before them.
   lines: samples: a sample of a sample.
   lines: samples of a corpus's matches: plain law. -/
import Derived.Shelf.SlSortCmp.NoneTotal
import Derived.Shelf.SlLaysF0
import Derived.Test.YtlklcjpmfjmenaaGreatDoorProg
import Derived.Test.YtlklcjpmfjmenaaGreatDoorFE1
import Derived.Test.YtlklcjpmfjmenaaGreatDoorGF
namespace Go.Proofs.YtlklcjpmfjmenaaGreatDoor
open Go.RowKit

theorem flatK_list {α : Type} [Inhabited α] {enc : α → List Value} {k : Nat} (hk : ∀ x, (enc x).length = k) (d : Array α) : (Go.Sort.flatK enc k d).toList = d.toList.flatMap enc := by
  refine List.ext_getElem? fun t => ?_
  have hl : (d.toList.flatMap enc).length = d.size * k := by rw [flat_len hk]; simp
  by_cases ht : t < d.size * k
  · have k0 : 0 < k := by rcases Nat.eq_zero_or_pos k with h | h
                          · subst h; simp at ht
                          · exact h
    have hi : t / k < d.size := Nat.div_lt_of_lt_mul (by rw [Nat.mul_comm]; exact ht)
    have hm : t % k < k := Nat.mod_lt _ k0
    have h1 := Go.Sort.get_flatK enc k d t ht
    have hs : t < (Go.Sort.flatK enc k d).size := by simpa using ht
    rw [Array.getElem?_toList, Array.getElem?_eq_getElem hs, ← getElem!_pos (Go.Sort.flatK enc k d) t hs, h1]
    have hx : d.toList[t / k]? = some d[t / k]! := by rw [Array.getElem?_toList, Array.getElem?_eq_getElem hi, getElem!_pos d _ hi]
    have h2 := flat_elem hk d.toList (t / k) _ hx
    have h3 : (enc d[t / k]!)[t % k]? = (d.toList.flatMap enc)[t / k * k + t % k]? := by
      rw [← h2, List.getElem?_take, if_pos hm, List.getElem?_drop]
    have h4 : t / k * k + t % k = t := by rw [Nat.mul_comm]; exact Nat.div_add_mod t k
    rw [h4] at h3
    rw [← h3, List.getElem?_eq_getElem (by rw [hk]; exact hm), getElem!_pos (enc d[t / k]!) (t % k) (by rw [hk]; exact hm)]
  · have e1 : (Go.Sort.flatK enc k d).toList.length ≤ t := by rw [Array.length_toList, Go.Sort.size_flatK]; omega
    have e2 : (d.toList.flatMap enc).length ≤ t := by rw [hl]; omega
    rw [List.getElem?_eq_none e1, List.getElem?_eq_none e2]

theorem keep_grow {w w' : World} (h : Keep All w w') : ∃ q os', w' = Go.Sort.grow (w.drewN q) os' := by
  refine ⟨w'.drawn - w.drawn, w'.heap.extract w.heap.size w'.heap.size, ?_⟩
  have h1 := h.os
  have h2 := h.tape
  have h3 := h.output
  have h4 := h.drawn
  have hd : ∀ n (u : World), u.drewN n = { u with drawn := u.drawn + n } := by
    intro n u
    rfl
  rw [hd]
  have hh : w'.heap = w.heap ++ w'.heap.extract w.heap.size w'.heap.size := by
    refine Array.ext_getElem? fun i => ?_
    by_cases hi : i < w.heap.size
    · rw [Array.getElem?_append_left hi]; exact h.block i hi trivial
    · rw [Array.getElem?_append_right (by omega), Array.getElem?_extract]
      have := h.size
      by_cases hj : i < w'.heap.size
      · rw [if_pos (by omega)]; congr 1; omega
      · rw [if_neg (by omega), Array.getElem?_eq_none (by omega)]
  cases w' with
  | mk hp tp dr os out =>
    simp only at h1 h2 h3 h4 hh
    unfold Go.Sort.grow
    simp only
    rw [← hh, ← h1, ← h2, ← h3]
    congr 1
    omega

section
variable {P : Program} {α : Type} [Inhabited α] {enc : α → List Value} {k : Nat}
theorem holdsK_of {w : World} {b el : Nat} {d : List α} {tl : List Value} (hk : ∀ x, (enc x).length = k) (hb : w.heap[b]? = some (.cells (d.flatMap enc ++ tl).toArray el (0, 0))) : Go.Sort.HoldsK enc k w b 0 d.toArray := by
  intro j hj
  rw [Go.Sort.size_flatK] at hj
  have hf : (Go.Sort.flatK enc k d.toArray).toList = d.flatMap enc := flatK_list hk d.toArray
  have hl : (d.flatMap enc).length = d.length * k := flat_len hk d
  have hj' : j < (d.flatMap enc).length := by rw [hl]; simpa using hj
  constructor
  · have h1 : (Go.Sort.flatK enc k d.toArray)[j]! = (d.flatMap enc)[j] := by
      rw [getElem!_pos _ j (by simpa using hj)]
      rw [← Array.getElem_toList]
      simp only [hf]
    simp only [World.cell?, hb, Nat.zero_add, id]
    rw [h1]
    simp [List.getElem?_append_left hj', List.getElem?_eq_getElem hj']
  · simp [World.frozen?, hb]

theorem putRowK_heap {w : World} {b el : Nat} {d : List α} {tl : List Value} (hk : ∀ x, (enc x).length = k) (hb : w.heap[b]? = some (.cells (d.flatMap enc ++ tl).toArray el (0, 0))) (dk : Array α) (hs : dk.size = d.length) :
    (Go.Sort.putRowK enc k w b 0 dk).heap[b]? = some (.cells (dk.toList.flatMap enc ++ tl).toArray el (0, 0)) ∧ ∀ c, c ≠ b → (Go.Sort.putRowK enc k w b 0 dk).heap[c]? = w.heap[c]? := by
  unfold Go.Sort.putRowK Go.Sort.putRow Go.Sort.mapBlock
  constructor
  · simp only [Array.getElem?_modify, if_true, hb, Option.map_some, Go.Sort.onCells]
    congr 2
    refine Array.ext_getElem? fun t => ?_
    unfold Go.Sort.putCells
    have hf : (Go.Sort.flatK enc k dk).toList = dk.toList.flatMap enc := flatK_list hk dk
    have hl : (d.flatMap enc).length = d.length * k := flat_len hk d
    have hl2 : (dk.toList.flatMap enc).length = dk.size * k := by rw [flat_len hk]; simp
    rw [Array.getElem?_mapIdx, Go.Sort.size_flatK]
    by_cases ht : t < dk.size * k
    · have ht1 : t < (d.flatMap enc).length := by rw [hl, ← hs]; exact ht
      have e3 : ((d.flatMap enc ++ tl).toArray)[t]? = some ((d.flatMap enc)[t]'ht1) := by
        rw [List.getElem?_toArray, List.getElem?_append_left ht1, List.getElem?_eq_getElem ht1]
      rw [e3]
      simp only [Option.map_some, Nat.zero_le, Nat.zero_add, ht, and_self, if_true, Nat.sub_zero, id]
      rw [getElem!_pos _ t (by simpa using ht), ← Array.getElem_toList]
      simp only [hf]
      simp [List.getElem?_append_left (show t < (dk.toList.flatMap enc).length by rw [hl2]; exact ht), List.getElem?_eq_getElem (show t < (dk.toList.flatMap enc).length by rw [hl2]; exact ht)]
    · have e1 : ((d.flatMap enc ++ tl).toArray)[t]? = tl[t - dk.size * k]? := by
        rw [List.getElem?_toArray, List.getElem?_append_right (by rw [hl, ← hs]; omega), hl, ← hs]
      have e2 : ((dk.toList.flatMap enc ++ tl).toArray)[t]? = tl[t - dk.size * k]? := by
        rw [List.getElem?_toArray, List.getElem?_append_right (by rw [hl2]; omega), hl2]
      rw [e1, e2]
      cases tl[t - dk.size * k]? with
      | none => rfl
      | some v => simp [ht]
  · intro c hc
    simp only [Array.getElem?_modify]
    rw [if_neg (fun h => hc h.symm)]

theorem sortWorldK_facts {w : World} {b el m : Nat} {d : List α} {tl : List Value} (hk : ∀ x, (enc x).length = k) (hb : w.heap[b]? = some (.cells (d.flatMap enc ++ tl).toArray el (0, 0))) (dk : Array α) (hs : dk.size = d.length) (os : Array Obj) :
    let W := Go.Proofs.sortWorldK enc k w b 0 m dk os
    W.heap[b]? = some (.cells (dk.toList.flatMap enc ++ tl).toArray el (0, 0)) ∧ (∀ c, c < w.heap.size → c ≠ b → W.heap[c]? = w.heap[c]?) ∧ w.heap.size ≤ W.heap.size ∧ W.os = w.os ∧ W.tape = w.tape ∧ W.output = w.output ∧ w.drawn ≤ W.drawn := by
  have hlt : b < w.heap.size := (Array.getElem?_eq_some_iff.1 hb).1
  obtain ⟨h1, h2⟩ := putRowK_heap (w := Go.Sort.ahead w m) hk hb dk hs
  have hsz : (Go.Sort.putRowK enc k (Go.Sort.ahead w m) b 0 dk).heap.size = w.heap.size := by
    unfold Go.Sort.putRowK Go.Sort.putRow Go.Sort.mapBlock Go.Sort.ahead
    simp
  refine ⟨?_, ?_, ?_, rfl, rfl, rfl, ?_⟩
  · show ((Go.Sort.putRowK enc k (Go.Sort.ahead w m) b 0 dk).heap ++ os)[b]? = _
    rw [Array.getElem?_append_left (by rw [hsz]; exact hlt)]; exact h1
  · intro c hc hcb
    show ((Go.Sort.putRowK enc k (Go.Sort.ahead w m) b 0 dk).heap ++ os)[c]? = _
    rw [Array.getElem?_append_left (by rw [hsz]; exact hc)]; exact h2 c hcb
  · show w.heap.size ≤ ((Go.Sort.putRowK enc k (Go.Sort.ahead w m) b 0 dk).heap ++ os).size
    rw [Array.size_append, hsz]; omega
  · show w.drawn ≤ w.drawn + m
    omega

/-- slices.SortFunc under a comparison that parts whatever is not one. -/
theorem sort_FnW {ρ : Go.Shelf.Ren} (L : Go.Proofs.SlLaysF0.n6 P ρ) (aE : ∀ w, (isAgg (ρ.t 24)).run P w = .ok true w) (zE : ∀ w, (Go.sizeOf (ρ.t 24)).run P w = .ok k w) (hk : ∀ x, (enc x).length = k) (h1 : ∀ x, ∀ v ∈ enc x, v.oneCell' = true)
    (cf : α → α → Int) (hO : Go.Sort.SWO (Go.Proofs.ltOf cf)) (hT : ∀ x y, Go.Proofs.ltOf cf x y = false → Go.Proofs.ltOf cf y x = false → x = y) (g : Nat) [hE : Ent P g] (cb : List Value) {H : Hp} {b cap el : Nat} (d : List α) (tl : List Value)
    (hcmp : ∀ x y, Fn P g ([Value.agg (enc x).toArray, .agg (enc y).toArray] ++ cb).toArray H (fun v _ => v = .int .i64 (cf x y))) (hsz : d.length < 4611686018427387904) :
    FnW P (ρ.f 6) #[.slice (some ⟨b, 0, none⟩) d.length cap, .func (.func g) #[] cb.toArray] H [(b, .cells (d.flatMap enc ++ tl).toArray el (0, 0))]
      (fun v H' l' => v = .tuple #[] ∧ H' = H ∧ l' = [(b, .cells ((d.mergeSort fun x y => !(Go.Proofs.ltOf cf) y x).flatMap enc ++ tl).toArray el (0, 0))]) := FnW.mk fun w hw => by
  obtain ⟨hb, hHb, _⟩ := hw.own _ List.mem_cons_self
  simp only at hb hHb
  have hlt : b < w.heap.size := (Array.getElem?_eq_some_iff.1 hb).1
  have hwd : ∀ (m : Nat) (dk : Array α) (os : Array Obj), dk.size = d.length → (X0.mk w H (own0 [(b, .cells (d.flatMap enc ++ tl).toArray el (0, 0))])).wd [(b, .cells (dk.toList.flatMap enc ++ tl).toArray el (0, 0))] H (Go.Proofs.sortWorldK enc k w b 0 m dk os) := by
    intro m dk os hs
    obtain ⟨f1, f2, f3, f4, f5, f6, f7⟩ := sortWorldK_facts (m := m) hk hb dk hs os
    refine ⟨fun p hp => ?_, by simp, fun c o hc => ?_, ⟨f4, f5, f6, f3, f7, fun c hc hp => ?_⟩, Hp.le.refl _, fun _ _ _ => rfl⟩
    · obtain rfl := List.mem_singleton.1 hp
      exact ⟨f1, hHb, fun _ hn => hn (by simp)⟩
    · have hcb : c ≠ b := fun e => by subst e; rw [hHb] at hc; cases hc
      exact (f2 c (hw.ltH hc) hcb).trans (hw.fro c o hc)
    · exact f2 c hc (fun e => hp (by subst e; simp))
  have hs0 := Go.Proofs.AnyQ.slices_SortFunc_total L k aE zE enc hk h1 cf hO g cb.toArray b 0 cap d.toArray w (fun args w => hE.h args w) (fun m os dk hs x y => ?_) (holdsK_of hk hb) hlt (by simpa using hsz) hT
  · refine callsIn_wide.2 (hs0.mono ?_)
    rintro e w' ⟨rfl, n, os, rfl⟩
    refine ⟨_, H, _, rfl, hwd n _ os ?_, rfl, rfl, rfl⟩
    simp [List.length_mergeSort]
  · have hs' : dk.size = d.length := by simpa using hs
    have hW := hwd m dk os hs'
    have hc := (hcmp x y).get _ hW.fro
    have hargs : (([Value.agg (enc x).toArray, .agg (enc y).toArray] ++ cb).toArray : Array Value) = #[.agg (enc x).toArray, .agg (enc y).toArray] ++ cb.toArray := by simp
    rw [hargs] at hc
    refine (callsIn_wide.1 hc).mono ?_
    rintro e w' ⟨v, H', rfl, _, _, hkp, rfl⟩
    exact ⟨rfl, keep_grow hkp⟩
end
end Go.Proofs.YtlklcjpmfjmenaaGreatDoor
namespace Go.Proofs.YtlklcjpmfjmenaaGreatDoor
open Go.Proofs Go.Shelf

def Tryz.sortL_ren : Go.Shelf.Ren := ⟨fun | 6 => 57 | 15 => 95 | 14 => 94 | 28 => 114 | 29 => 115 | 20 => 105 | 21 => 107 | 22 => 108 | 23 => 109 | 24 => 110 | 25 => 111 | 26 => 112 | 27 => 113 | 46 => 130 | 47 => 131 | 48 => 132 | 49 => 133 | 50 => 134 | 57 => 148 | n => n, fun | 22 => 95 | 24 => 97 | 25 => 100 | 3 => 3 | 39 => 142 | 0 => 0 | 53 => 50 | 55 => 161 | 4 => 4 | 46 => 153 | 45 => 152 | 50 => 157 | 5 => 5 | 9 => 9 | 66 => 171 | 70 => 175 | 76 => 185 | 77 => 186 | n => n, fun | n => n⟩
theorem Tryz.sortL : Go.Proofs.SlLaysF0.n6 Tryz.prog Tryz.sortL_ren := {
  mixed := by kernel_rfl,
  f6 := ⟨Tryz.f57.name, by decide, Tryz.func57.trans (congrArg some (by kernel_rfl))⟩,
  f14 := ⟨Tryz.f94.name, by decide, Tryz.func94.trans (congrArg some (by kernel_rfl))⟩,
  f15 := Tryz.func95.trans (congrArg some (by kernel_rfl)),
  f20 := ⟨Tryz.f105.name, by decide, Tryz.func105.trans (congrArg some (by kernel_rfl))⟩,
  f21 := ⟨Tryz.f107.name, by decide, Tryz.func107.trans (congrArg some (by kernel_rfl))⟩,
  f22 := ⟨Tryz.f108.name, by decide, Tryz.func108.trans (congrArg some (by kernel_rfl))⟩,
  f23 := ⟨Tryz.f109.name, by decide, Tryz.func109.trans (congrArg some (by kernel_rfl))⟩,
  f24 := ⟨Tryz.f110.name, by decide, Tryz.func110.trans (congrArg some (by kernel_rfl))⟩,
  f25 := ⟨Tryz.f111.name, by decide, Tryz.func111.trans (congrArg some (by kernel_rfl))⟩,
  f26 := ⟨Tryz.f112.name, by decide, Tryz.func112.trans (congrArg some (by kernel_rfl))⟩,
  f27 := ⟨Tryz.f113.name, by decide, Tryz.func113.trans (congrArg some (by kernel_rfl))⟩,
  f28 := Tryz.func114.trans (congrArg some (by kernel_rfl)),
  f29 := Tryz.func115.trans (congrArg some (by kernel_rfl)),
  f46 := ⟨Tryz.f130.name, by decide, Tryz.func130.trans (congrArg some (by kernel_rfl))⟩,
  f47 := Tryz.func131.trans (congrArg some (by kernel_rfl)),
  f48 := Tryz.func132.trans (congrArg some (by kernel_rfl)),
  f49 := ⟨Tryz.f133.name, by decide, Tryz.func133.trans (congrArg some (by kernel_rfl))⟩,
  f50 := ⟨Tryz.f134.name, by decide, Tryz.func134.trans (congrArg some (by kernel_rfl))⟩,
  f57 := ⟨Tryz.f148.name, by decide, Tryz.func148.trans (congrArg some (by kernel_rfl))⟩,
  t0 := Tryz.underlying0,
  a0 := Tryz.isAgg0,
  z0 := Tryz.sizeOf0,
  v0 := Tryz.zeroValue0,
  t3 := Tryz.underlying3,
  a3 := Tryz.isAgg3,
  z3 := Tryz.sizeOf3,
  v3 := Tryz.zeroValue3,
  t4 := Tryz.underlying4,
  a4 := Tryz.isAgg4,
  z4 := Tryz.sizeOf4,
  v4 := Tryz.zeroValue4,
  t5 := Tryz.underlying5,
  a5 := Tryz.isAgg5,
  z5 := Tryz.sizeOf5,
  v5 := Tryz.zeroValue5,
  t9 := Tryz.underlying9,
  a9 := Tryz.isAgg9,
  z9 := Tryz.sizeOf9,
  v9 := Tryz.zeroValue9,
  t22 := Tryz.underlying95,
  a22 := Tryz.isAgg95,
  z22 := Tryz.sizeOf95,
  v22 := Tryz.zeroValue95,
  t25 := Tryz.underlying100,
  a25 := Tryz.isAgg100,
  z25 := Tryz.sizeOf100,
  v25 := Tryz.zeroValue100,
  t39 := Tryz.underlying142,
  a39 := Tryz.isAgg142,
  z39 := Tryz.sizeOf142,
  v39 := Tryz.zeroValue142,
  t45 := Tryz.underlying152,
  a45 := Tryz.isAgg152,
  z45 := Tryz.sizeOf152,
  v45 := Tryz.zeroValue152,
  t46 := Tryz.underlying153,
  a46 := Tryz.isAgg153,
  z46 := Tryz.sizeOf153,
  v46 := Tryz.zeroValue153,
  t50 := Tryz.underlying157,
  a50 := Tryz.isAgg157,
  z50 := Tryz.sizeOf157,
  v50 := Tryz.zeroValue157,
  t53 := Tryz.underlying50,
  a53 := Tryz.isAgg50,
  z53 := Tryz.sizeOf50,
  v53 := Tryz.zeroValue50,
  t55 := Tryz.underlying161,
  a55 := Tryz.isAgg161,
  z55 := Tryz.sizeOf161,
  v55 := Tryz.zeroValue161,
  t66 := Tryz.underlying171,
  a66 := Tryz.isAgg171,
  z66 := Tryz.sizeOf171,
  v66 := Tryz.zeroValue171,
  t70 := Tryz.underlying175,
  a70 := Tryz.isAgg175,
  z70 := Tryz.sizeOf175,
  v70 := Tryz.zeroValue175,
  t76 := Tryz.underlying185,
  a76 := Tryz.isAgg185,
  z76 := Tryz.sizeOf185,
  v76 := Tryz.zeroValue185,
  t77 := Tryz.underlying186,
  a77 := Tryz.isAgg186,
  z77 := Tryz.sizeOf186,
  v77 := Tryz.zeroValue186 }
end Go.Proofs.YtlklcjpmfjmenaaGreatDoor
namespace Go.Proofs.YtlklcjpmfjmenaaGreatDoor
open Go.RowKit

theorem isNaNU_fn (a : Int) (H : Hp) : Fn Tryz.prog 93 #[.int .u32 a] H (fun v _ => v = .bool false) := by
  refine Fn.of_T (vs := [.int .u32 a]) Tryz.func93 rfl rfl fun w => ?_
  have h : decide (a ≠ a) = false := by simp
  refine sq ?_
  refine sr ?_
  refine sa ?_
  refine so ?_
  refine sq ?_
  refine sr ?_
  refine sm ?_
  refine sm ?_
  refine sv (PV.neq rfl rfl) ?_
  refine sa ?_
  refine so ?_
  exact T.retF (Lv.fin (RV.tmp rfl rfl) (by rw [h]))
theorem cmpCompareU_fn (a b : Int) (H : Hp) : Fn Tryz.prog 56 #[.int .u32 a, .int .u32 b] H (fun v _ => v = .int .i64 (cmpI a b)) := by
  refine Fn.of_T (vs := [.int .u32 a, .int .u32 b]) Tryz.func56 rfl rfl fun w => ?_
  refine sq ?_
  refine sr ?_
  refine sa ?_
  refine so ?_
  refine sq ?_
  refine sr ?_
  refine sm ?_
  refine T.callV Wanted.none rfl rfl (isNaNU_fn _ H) ?_
  refine sa ?_
  refine so ?_
  refine sq ?_
  refine sr ?_
  refine sm ?_
  refine T.callV Wanted.none rfl rfl (isNaNU_fn _ H) ?_
  refine sa ?_
  refine so ?_
  refine sq ?_
  refine sq ?_
  refine sr ?_
  refine sm ?_
  refine so ?_
  refine T.condF rfl rfl ?_
  refine T.skip ?_
  refine sq ?_
  refine sq ?_
  refine sr ?_
  refine sm ?_
  refine so ?_
  refine T.condF rfl rfl ?_
  refine T.skip ?_
  refine sq ?_
  refine sq ?_
  refine sr ?_
  refine sm ?_
  refine sm ?_
  refine sv (PV.lss rfl rfl) ?_
  refine so ?_
  refine T.condD rfl (fun h0 => ?_) (fun h0 => ?_)
  · refine sq ?_
    refine sr ?_
    refine sa ?_
    refine so ?_
    (refine T.retF (Lv.fin (RV.tmp rfl rfl) ?_); congr 1; unfold cmpI; split <;> (try split) <;> omega)
  · refine T.skip ?_
    refine sq ?_
    refine sq ?_
    refine sr ?_
    refine sm ?_
    refine sm ?_
    refine sv (PV.gtr rfl rfl) ?_
    refine so ?_
    refine T.condD rfl (fun h1 => ?_) (fun h1 => ?_)
    · refine sq ?_
      refine sr ?_
      refine sa ?_
      refine so ?_
      (refine T.retF (Lv.fin (RV.tmp rfl rfl) ?_); congr 1; unfold cmpI; split <;> (try split) <;> omega)
    · refine T.skip ?_
      refine sq ?_
      refine sr ?_
      refine sa ?_
      refine so ?_
      (refine T.retF (Lv.fin (RV.tmp rfl rfl) ?_); congr 1; unfold cmpI; split <;> (try split) <;> omega)
set_option maxHeartbeats 1000000 in
theorem keyU_fn (a b : Ku) (H : Hp) (ha : KuOk H a) (hb : KuOk H b) : Fn Tryz.prog 55 #[kuV a, kuV b] H (fun u _ => u = .int .i64 (cmpI a.key b.key)) := by
  obtain ⟨aa, ca, hav⟩ := ha.1.len
  obtain ⟨ab, cb, hbv⟩ := hb.1.len
  unfold kuV
  rw [hav, hbv]
  refine Fn.of_T (vs := [.agg #[.int .i64 a.m.b, .int .i64 a.m.e, .slice aa a.m.ls.length ca, .int .i64 a.at_, .int .u32 a.key], .agg #[.int .i64 b.m.b, .int .i64 b.m.e, .slice ab b.m.ls.length cb, .int .i64 b.at_, .int .u32 b.key]]) Tryz.func55 rfl rfl fun w => ?_
  refine sq ?_
  refine sr ?_
  (refine T.box Wanted.none rfl rfl zq15 ?_; intro b2)
  (refine T.box Wanted.none rfl rfl zq15 ?_; intro b3)
  refine sa ?_
  refine so ?_
  refine sq ?_
  refine sr ?_
  refine sf ?_
  refine sl ?_
  refine sf ?_
  refine sl ?_
  refine T.callV Wanted.none rfl rfl (cmpCompareU_fn _ _ H) ?_
  refine sa ?_
  refine so ?_
  exact T.retF (Lv.fin (RV.tmp rfl rfl) rfl)
set_option maxHeartbeats 1000000 in
theorem atU_fn (a b : Ku) (H : Hp) (ha : KuOk H a) (hb : KuOk H b) : Fn Tryz.prog 58 #[kuV a, kuV b] H (fun u _ => u = .int .i64 (cmpI a.at_ b.at_)) := by
  obtain ⟨aa, ca, hav⟩ := ha.1.len
  obtain ⟨ab, cb, hbv⟩ := hb.1.len
  unfold kuV
  rw [hav, hbv]
  refine Fn.of_T (vs := [.agg #[.int .i64 a.m.b, .int .i64 a.m.e, .slice aa a.m.ls.length ca, .int .i64 a.at_, .int .u32 a.key], .agg #[.int .i64 b.m.b, .int .i64 b.m.e, .slice ab b.m.ls.length cb, .int .i64 b.at_, .int .u32 b.key]]) Tryz.func58 rfl rfl fun w => ?_
  refine sq ?_
  refine sr ?_
  (refine T.box Wanted.none rfl rfl zq15 ?_; intro b2)
  (refine T.box Wanted.none rfl rfl zq15 ?_; intro b3)
  refine sa ?_
  refine so ?_
  refine sq ?_
  refine sr ?_
  refine sf ?_
  refine sl ?_
  refine sf ?_
  refine sl ?_
  refine T.callV Wanted.none rfl rfl (cmpCompare_fn _ _ H) ?_
  refine sa ?_
  refine so ?_
  exact T.retF (Lv.fin (RV.tmp rfl rfl) rfl)
end Go.Proofs.YtlklcjpmfjmenaaGreatDoor
namespace Go.Proofs.YtlklcjpmfjmenaaGreatDoor

section
variable {α : Type}
theorem insK_congr {lt lt' : α → α → Bool} {A : List α} {x : α} (h : ∀ y ∈ A, lt x y = lt' x y) : ∀ k, insK lt A x k = insK lt' A x k
  | 0 => rfl
  | k + 1 => by
    unfold insK
    cases hA : A[k]? with
    | none => rfl
    | some y =>
      dsimp only
      rw [h y (List.mem_of_getElem? hA), insK_congr h k]
theorem insE_congr {lt lt' : α → α → Bool} {A : List α} {x : α} (h : ∀ y ∈ A, lt x y = lt' x y) : insE lt A x = insE lt' A x := by
  unfold insE
  rw [insK_congr h]
theorem foldl_congrL {lt lt' : α → α → Bool} : ∀ (l A : List α), (∀ x ∈ l, ∀ y ∈ A, lt x y = lt' x y) → l.Pairwise (fun a b => lt b a = lt' b a) → l.foldl (insE lt) A = l.foldl (insE lt') A
  | [], A, _, _ => rfl
  | x :: l, A, h, hp => by
    rw [List.pairwise_cons] at hp
    rw [List.foldl_cons, List.foldl_cons, insE_congr (h x (List.mem_cons_self ..))]
    refine foldl_congrL l _ (fun x' hx' y hy => ?_) hp.2
    rcases List.mem_cons.1 ((insE_perm lt' A x).mem_iff.1 hy) with rfl | hy
    · exact hp.1 x' hx'
    · exact h x' (List.mem_cons_of_mem _ hx') y hy
theorem sortK_congr {lt lt' : α → α → Bool} {l : List α} (h : l.Pairwise (fun a b => lt b a = lt' b a)) : sortK lt l = sortK lt' l :=
  foldl_congrL l [] (by simp) h
/-- of a list that is strictly ascending, the first n are those with fewer than n before them -/
theorem take_rank {lt : α → α → Bool} (hasy : ∀ a b, lt a b = true → lt b a = false) (n : Nat) : ∀ (suf pre : List α), (pre ++ suf).Pairwise (fun a b => lt a b = true) → suf.filter (fun r => decide ((pre ++ suf).countP (fun x => lt x r) < n)) = suf.take (n - pre.length)
  | [], pre, _ => by simp
  | a :: t, pre, hp => by
    have ih := take_rank hasy n t (pre ++ [a]) (by simpa using hp)
    rw [List.append_assoc, List.singleton_append, List.length_append, List.length_singleton] at ih
    have hp2 := List.pairwise_append.1 hp
    have h1 : pre.countP (fun x => lt x a) = pre.length := List.countP_eq_length.2 fun x hx => hp2.2.2 x hx a (List.mem_cons_self ..)
    have hself : lt a a = false := by
      cases h : lt a a
      · rfl
      · exact (hasy a a h).symm.trans h |>.symm ▸ rfl
    have h2 : (a :: t).countP (fun x => lt x a) = 0 := by
      rw [List.countP_eq_zero]
      intro x hx
      rcases List.mem_cons.1 hx with rfl | hx
      · rw [hself]; simp
      · rw [hasy a x ((List.pairwise_cons.1 hp2.2.1).1 x hx)]; simp
    have h3 : (pre ++ a :: t).countP (fun x => lt x a) = pre.length := by rw [List.countP_append, h1, h2, Nat.add_zero]
    rw [List.filter_cons, h3, ih]
    by_cases hn : pre.length < n
    · rw [decide_eq_true hn, if_pos rfl, show n - pre.length = (n - (pre.length + 1)) + 1 by omega, List.take_succ_cons]
    · rw [decide_eq_false hn, show n - (pre.length + 1) = 0 by omega, show n - pre.length = 0 by omega]
      simp
end
/-- a match's key, its place, its number -/
abbrev K3U := List Int × Int × Int
def ltU (a b : K3U) : Bool := decide (a.2.2 < b.2.2 ∨ (a.2.2 = b.2.2 ∧ a.2.1 < b.2.1))
theorem ltU_as (a b : K3U) (h : ltU a b = true) : ltU b a = false := by
  unfold ltU at *
  rw [decide_eq_true_eq] at h
  rw [decide_eq_false_iff_not]
  omega
def rankU (l : List K3U) (r : K3U) : Nat := l.countP (fun x => ltU x r)
/-- the elements with fewer than n before them, in order -/
def smpU (l : List K3U) (n : Nat) : List K3U := l.filter fun r => decide (rankU l r < n)
theorem ltU_ord : Ord ltU where
  asym a b h := ltU_as a b h
  trans a b c h1 h2 := by
    unfold ltU at *
    rw [decide_eq_false_iff_not] at *
    omega
/-- what sorting by the number and taking the first n leaves, put in order again -/
theorem smp_of {l S : List K3U} {n : Nat} (hl : l.Pairwise fun a b => a.2.1 < b.2.1) (hS : S.Pairwise fun a b => a.2.1 < b.2.1) (hp : S.Perm ((sortK (fun a b => decide (a.2.2 < b.2.2)) l).take n)) : S = smpU l n := by
  have e1 : sortK (fun a b : K3U => decide (a.2.2 < b.2.2)) l = sortK ltU l := by
    refine sortK_congr (hl.imp fun {a b} h => ?_)
    unfold ltU
    rw [decide_eq_decide]
    omega
  rw [e1] at hp
  have hT : (sortK ltU l).Pairwise fun a b => ltU a b = true := by
    have h1 := sortK_sorted ltU_ord l
    have h2 : (sortK ltU l).Pairwise fun a b => a.2.1 ≠ b.2.1 := by
      refine (List.Perm.pairwise_iff (fun {a b} h => Ne.symm h) (sortK_perm ltU l)).2 (hl.imp fun {a b} h => by omega)
    refine (h1.and h2).imp fun {a b} h => ?_
    have h3 := h.1
    have h4 := h.2
    unfold ltU at h3 ⊢
    rw [decide_eq_false_iff_not] at h3
    rw [decide_eq_true_eq]
    omega
  have h5 := take_rank ltU_as n (sortK ltU l) [] (by simpa using hT)
  rw [List.length_nil, Nat.sub_zero, List.nil_append] at h5
  rw [← h5] at hp
  have h6 : ((sortK ltU l).filter fun r => decide ((sortK ltU l).countP (fun x => ltU x r) < n)).Perm (smpU l n) := by
    have e2 : ∀ r, (sortK ltU l).countP (fun x => ltU x r) = rankU l r := fun r => (sortK_perm ltU l).countP_eq _
    simp only [e2]
    exact (sortK_perm ltU l).filter _
  refine List.Perm.eq_of_pairwise (le := fun a b => a.2.1 < b.2.1) (fun a b _ _ h1 h2 => by omega) hS (hl.sublist List.filter_sublist) (hp.trans h6)
end Go.Proofs.YtlklcjpmfjmenaaGreatDoor
namespace Go.Proofs.YtlklcjpmfjmenaaGreatDoor

/-- what sorting by the number and taking the first n leaves, is the sample -/
theorem smpU_perm {l : List K3U} (hl : l.Pairwise fun a b => a.2.1 < b.2.1) (n : Nat) : ((sortK (fun a b => decide (a.2.2 < b.2.2)) l).take n).Perm (smpU l n) := by
  have e1 : sortK (fun a b : K3U => decide (a.2.2 < b.2.2)) l = sortK ltU l := by
    refine sortK_congr (hl.imp fun {a b} h => ?_)
    unfold ltU
    rw [decide_eq_decide]
    omega
  rw [e1]
  have hT : (sortK ltU l).Pairwise fun a b => ltU a b = true := by
    have h1 := sortK_sorted ltU_ord l
    have h2 : (sortK ltU l).Pairwise fun a b => a.2.1 ≠ b.2.1 := by
      refine (List.Perm.pairwise_iff (fun {a b} h => Ne.symm h) (sortK_perm ltU l)).2 (hl.imp fun {a b} h => by omega)
    refine (h1.and h2).imp fun {a b} h => ?_
    have h3 := h.1
    have h4 := h.2
    unfold ltU at h3 ⊢
    rw [decide_eq_false_iff_not] at h3
    rw [decide_eq_true_eq]
    omega
  have h5 := take_rank ltU_as n (sortK ltU l) [] (by simpa using hT)
  rw [List.length_nil, Nat.sub_zero, List.nil_append] at h5
  rw [← h5]
  have e2 : ∀ r, (sortK ltU l).countP (fun x => ltU x r) = rankU l r := fun r => (sortK_perm ltU l).countP_eq _
  simp only [e2]
  exact (sortK_perm ltU l).filter _
theorem smpU_len {l : List K3U} (hl : l.Pairwise fun a b => a.2.1 < b.2.1) (n : Nat) : (smpU l n).length = min n l.length := by
  have h := (smpU_perm hl n).length_eq
  rw [List.length_take, sortK_length] at h
  exact h.symm
end Go.Proofs.YtlklcjpmfjmenaaGreatDoor
namespace Go.Proofs.YtlklcjpmfjmenaaGreatDoor
open Go.RowKit

def kuK (r : Ku) : K3U := (keyM r.m, r.at_, r.key)
/-- the matches with their places and hashes -/
def rowsU (c : Cp) (seed : Int) (L : List Mt) : List K3U := L.zipIdx.map fun z => (keyM z.1, (z.2 : Int), hashO c z.1 seed)
theorem rowsU_snoc (c : Cp) (seed : Int) (A : List Mt) (m : Mt) : rowsU c seed (A ++ [m]) = rowsU c seed A ++ [(keyM m, (A.length : Int), hashO c m seed)] := by
  unfold rowsU
  rw [List.zipIdx_append, List.map_append]
  simp
theorem rowsU_len (c : Cp) (seed : Int) (L : List Mt) : (rowsU c seed L).length = L.length := by unfold rowsU; simp
theorem rowsU_at (c : Cp) (seed : Int) (L : List Mt) {i : Nat} {m : Mt} (h : L[i]? = some m) : (rowsU c seed L)[i]? = some (keyM m, (i : Int), hashO c m seed) := by
  unfold rowsU
  rw [List.getElem?_map, List.getElem?_zipIdx, h]
  simp
theorem rowsU_pw (c : Cp) (seed : Int) (L : List Mt) : (rowsU c seed L).Pairwise fun a b => a.2.1 < b.2.1 := by
  rw [List.pairwise_iff_getElem]
  intro i j hi hj hij
  rw [rowsU_len] at hi hj
  have h1 := rowsU_at c seed L (List.getElem?_eq_getElem hi)
  have h2 := rowsU_at c seed L (List.getElem?_eq_getElem hj)
  rw [List.getElem?_eq_some_iff] at h1 h2
  obtain ⟨_, h1⟩ := h1
  obtain ⟨_, h2⟩ := h2
  rw [h1, h2]
  show (i : Int) < (j : Int)
  omega
theorem smp_len {c : Cp} {seed : Int} {L A : List Mt} {n : Nat} (h : A.map keyM = (smpU (rowsU c seed L) n).map (·.1)) : A.length = min n L.length := by
  have h1 := congrArg List.length h
  rw [List.length_map, List.length_map, smpU_len (rowsU_pw c seed L), rowsU_len] at h1
  exact h1
/-- rows sorted by their numbers, the first n put in order again -/
theorem rows_smp {c : Cp} {seed : Int} {L : List Mt} {R T : List Ku} {n : Nat} (hR : R.map kuK = rowsU c seed L) (hT : T.Perm ((sortK (fun a b : Ku => decide (cmpI a.key b.key < 0)) R).take n)) (hs : T.Pairwise fun a b => a.at_ < b.at_) : T.map kuK = smpU (rowsU c seed L) n := by
  have h1 := sortK_map kuK (fun a b => decide (cmpI a.key b.key < 0)) (fun a b : K3U => decide (a.2.2 < b.2.2)) R (fun x _ y _ => by
    show decide (x.key < y.key) = decide (cmpI x.key y.key < 0)
    rw [decide_eq_decide]
    unfold cmpI
    split <;> (try split) <;> omega)
  rw [hR] at h1
  refine smp_of (rowsU_pw c seed L) (List.pairwise_map.2 (hs.imp fun h => h)) ?_
  rw [h1, ← List.map_take]
  exact hT.map kuK
end Go.Proofs.YtlklcjpmfjmenaaGreatDoor
