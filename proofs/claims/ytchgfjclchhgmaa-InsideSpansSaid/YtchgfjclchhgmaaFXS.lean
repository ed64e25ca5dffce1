/- Own layer: slices.SortFunc over a slice of the walk's own, by the library's proved contract. -/
import Derived.Shelf.SlSortCmp.NoneTotal
import Derived.Test.YtchgfjclchhgmaaG2
namespace Go.Proofs.Ytchgfjclchhgmaa
open Go.RowKit

theorem flatK_list {α : Type} [Inhabited α] {enc : α → List Value} {k : Nat} (hk : ∀ x, (enc x).length = k) (d : Array α) : (Go.Sort.flatK enc k d).toList = d.toList.flatMap enc := by
  refine List.ext_getElem? fun t => ?_
  have hl : (d.toList.flatMap enc).length = d.size * k := by rw [flat_len hk]; simp
  by_cases ht : t < d.size * k
  · have k0 : 0 < k := by rcases Nat.eq_zero_or_pos k with h | h
                          · subst h; simp at ht
                          · exact h
    have hi : t / k < d.size := Nat.div_lt_of_lt_mul (by rw [Nat.mul_comm]; exact ht)
    have hm : t % k < k := Nat.mod_lt _ k0
    have h1 := Go.Sort.get_flatK enc k d t ht
    have hs : t < (Go.Sort.flatK enc k d).size := by simpa using ht
    rw [Array.getElem?_toList, Array.getElem?_eq_getElem hs, ← getElem!_pos (Go.Sort.flatK enc k d) t hs, h1]
    have hx : d.toList[t / k]? = some d[t / k]! := by rw [Array.getElem?_toList, Array.getElem?_eq_getElem hi, getElem!_pos d _ hi]
    have h2 := flat_elem hk d.toList (t / k) _ hx
    have h3 : (enc d[t / k]!)[t % k]? = (d.toList.flatMap enc)[t / k * k + t % k]? := by
      rw [← h2, List.getElem?_take, if_pos hm, List.getElem?_drop]
    have h4 : t / k * k + t % k = t := by rw [Nat.mul_comm]; exact Nat.div_add_mod t k
    rw [h4] at h3
    rw [← h3, List.getElem?_eq_getElem (by rw [hk]; exact hm), getElem!_pos (enc d[t / k]!) (t % k) (by rw [hk]; exact hm)]
  · have e1 : (Go.Sort.flatK enc k d).toList.length ≤ t := by rw [Array.length_toList, Go.Sort.size_flatK]; omega
    have e2 : (d.toList.flatMap enc).length ≤ t := by rw [hl]; omega
    rw [List.getElem?_eq_none e1, List.getElem?_eq_none e2]

theorem keep_grow {w w' : World} (h : Keep All w w') : ∃ q os', w' = Go.Sort.grow (w.drewN q) os' := by
  refine ⟨w'.drawn - w.drawn, w'.heap.extract w.heap.size w'.heap.size, ?_⟩
  have h1 := h.os
  have h2 := h.tape
  have h3 := h.output
  have h4 := h.drawn
  have hd : ∀ n (u : World), u.drewN n = { u with drawn := u.drawn + n } := by
    intro n u
    rfl
  rw [hd]
  have hh : w'.heap = w.heap ++ w'.heap.extract w.heap.size w'.heap.size := by
    refine Array.ext_getElem? fun i => ?_
    by_cases hi : i < w.heap.size
    · rw [Array.getElem?_append_left hi]; exact h.block i hi trivial
    · rw [Array.getElem?_append_right (by omega), Array.getElem?_extract]
      have := h.size
      by_cases hj : i < w'.heap.size
      · rw [if_pos (by omega)]; congr 1; omega
      · rw [if_neg (by omega), Array.getElem?_eq_none (by omega)]
  cases w' with
  | mk hp tp dr os out =>
    simp only at h1 h2 h3 h4 hh
    unfold Go.Sort.grow
    simp only
    rw [← hh, ← h1, ← h2, ← h3]
    congr 1
    omega

section
variable {P : Program} {α : Type} [Inhabited α] {enc : α → List Value} {k : Nat}
theorem holdsK_of {w : World} {b el : Nat} {d : List α} {tl : List Value} (hk : ∀ x, (enc x).length = k) (hb : w.heap[b]? = some (.cells (d.flatMap enc ++ tl).toArray el (0, 0))) : Go.Sort.HoldsK enc k w b 0 d.toArray := by
  intro j hj
  rw [Go.Sort.size_flatK] at hj
  have hf : (Go.Sort.flatK enc k d.toArray).toList = d.flatMap enc := flatK_list hk d.toArray
  have hl : (d.flatMap enc).length = d.length * k := flat_len hk d
  have hj' : j < (d.flatMap enc).length := by rw [hl]; simpa using hj
  constructor
  · have h1 : (Go.Sort.flatK enc k d.toArray)[j]! = (d.flatMap enc)[j] := by
      rw [getElem!_pos _ j (by simpa using hj)]
      rw [← Array.getElem_toList]
      simp only [hf]
    simp only [World.cell?, hb, Nat.zero_add, id]
    rw [h1]
    simp [List.getElem?_append_left hj', List.getElem?_eq_getElem hj']
  · simp [World.frozen?, hb]

theorem putRowK_heap {w : World} {b el : Nat} {d : List α} {tl : List Value} (hk : ∀ x, (enc x).length = k) (hb : w.heap[b]? = some (.cells (d.flatMap enc ++ tl).toArray el (0, 0))) (dk : Array α) (hs : dk.size = d.length) :
    (Go.Sort.putRowK enc k w b 0 dk).heap[b]? = some (.cells (dk.toList.flatMap enc ++ tl).toArray el (0, 0)) ∧ ∀ c, c ≠ b → (Go.Sort.putRowK enc k w b 0 dk).heap[c]? = w.heap[c]? := by
  unfold Go.Sort.putRowK Go.Sort.putRow Go.Sort.mapBlock
  constructor
  · simp only [Array.getElem?_modify, if_true, hb, Option.map_some, Go.Sort.onCells]
    congr 2
    refine Array.ext_getElem? fun t => ?_
    unfold Go.Sort.putCells
    have hf : (Go.Sort.flatK enc k dk).toList = dk.toList.flatMap enc := flatK_list hk dk
    have hl : (d.flatMap enc).length = d.length * k := flat_len hk d
    have hl2 : (dk.toList.flatMap enc).length = dk.size * k := by rw [flat_len hk]; simp
    rw [Array.getElem?_mapIdx, Go.Sort.size_flatK]
    by_cases ht : t < dk.size * k
    · have ht1 : t < (d.flatMap enc).length := by rw [hl, ← hs]; exact ht
      have e3 : ((d.flatMap enc ++ tl).toArray)[t]? = some ((d.flatMap enc)[t]'ht1) := by
        rw [List.getElem?_toArray, List.getElem?_append_left ht1, List.getElem?_eq_getElem ht1]
      rw [e3]
      simp only [Option.map_some, Nat.zero_le, Nat.zero_add, ht, and_self, if_true, Nat.sub_zero, id]
      rw [getElem!_pos _ t (by simpa using ht), ← Array.getElem_toList]
      simp only [hf]
      simp [List.getElem?_append_left (show t < (dk.toList.flatMap enc).length by rw [hl2]; exact ht), List.getElem?_eq_getElem (show t < (dk.toList.flatMap enc).length by rw [hl2]; exact ht)]
    · have e1 : ((d.flatMap enc ++ tl).toArray)[t]? = tl[t - dk.size * k]? := by
        rw [List.getElem?_toArray, List.getElem?_append_right (by rw [hl, ← hs]; omega), hl, ← hs]
      have e2 : ((dk.toList.flatMap enc ++ tl).toArray)[t]? = tl[t - dk.size * k]? := by
        rw [List.getElem?_toArray, List.getElem?_append_right (by rw [hl2]; omega), hl2]
      rw [e1, e2]
      cases tl[t - dk.size * k]? with
      | none => rfl
      | some v => simp [ht]
  · intro c hc
    simp only [Array.getElem?_modify]
    rw [if_neg (fun h => hc h.symm)]

theorem sortWorldK_facts {w : World} {b el m : Nat} {d : List α} {tl : List Value} (hk : ∀ x, (enc x).length = k) (hb : w.heap[b]? = some (.cells (d.flatMap enc ++ tl).toArray el (0, 0))) (dk : Array α) (hs : dk.size = d.length) (os : Array Obj) :
    let W := Go.Proofs.sortWorldK enc k w b 0 m dk os
    W.heap[b]? = some (.cells (dk.toList.flatMap enc ++ tl).toArray el (0, 0)) ∧ (∀ c, c < w.heap.size → c ≠ b → W.heap[c]? = w.heap[c]?) ∧ w.heap.size ≤ W.heap.size ∧ W.os = w.os ∧ W.tape = w.tape ∧ W.output = w.output ∧ w.drawn ≤ W.drawn := by
  have hlt : b < w.heap.size := (Array.getElem?_eq_some_iff.1 hb).1
  obtain ⟨h1, h2⟩ := putRowK_heap (w := Go.Sort.ahead w m) hk hb dk hs
  have hsz : (Go.Sort.putRowK enc k (Go.Sort.ahead w m) b 0 dk).heap.size = w.heap.size := by
    unfold Go.Sort.putRowK Go.Sort.putRow Go.Sort.mapBlock Go.Sort.ahead
    simp
  refine ⟨?_, ?_, ?_, rfl, rfl, rfl, ?_⟩
  · show ((Go.Sort.putRowK enc k (Go.Sort.ahead w m) b 0 dk).heap ++ os)[b]? = _
    rw [Array.getElem?_append_left (by rw [hsz]; exact hlt)]; exact h1
  · intro c hc hcb
    show ((Go.Sort.putRowK enc k (Go.Sort.ahead w m) b 0 dk).heap ++ os)[c]? = _
    rw [Array.getElem?_append_left (by rw [hsz]; exact hc)]; exact h2 c hcb
  · show w.heap.size ≤ ((Go.Sort.putRowK enc k (Go.Sort.ahead w m) b 0 dk).heap ++ os).size
    rw [Array.size_append, hsz]; omega
  · show w.drawn ≤ w.drawn + m
    omega

/-- slices.SortFunc under a comparison that parts whatever is not one. -/
theorem sort_FnW {ρ : Go.Shelf.Ren} (L : Go.Proofs.SlLaysF0.n6 P ρ) (aE : ∀ w, (isAgg (ρ.t 24)).run P w = .ok true w) (zE : ∀ w, (Go.sizeOf (ρ.t 24)).run P w = .ok k w) (hk : ∀ x, (enc x).length = k) (h1 : ∀ x, ∀ v ∈ enc x, v.oneCell' = true)
    (cf : α → α → Int) (hO : Go.Sort.SWO (Go.Proofs.ltOf cf)) (hT : ∀ x y, Go.Proofs.ltOf cf x y = false → Go.Proofs.ltOf cf y x = false → x = y) (g : Nat) [hE : Ent P g] (cb : List Value) {H : Hp} {b cap el : Nat} (d : List α) (tl : List Value)
    (hcmp : ∀ x y, Fn P g ([Value.agg (enc x).toArray, .agg (enc y).toArray] ++ cb).toArray H (fun v _ => v = .int .i64 (cf x y))) (hsz : d.length < 4611686018427387904) :
    FnW P (ρ.f 6) #[.slice (some ⟨b, 0, none⟩) d.length cap, .func (.func g) #[] cb.toArray] H [(b, .cells (d.flatMap enc ++ tl).toArray el (0, 0))]
      (fun v H' l' => v = .tuple #[] ∧ H' = H ∧ l' = [(b, .cells ((d.mergeSort fun x y => !(Go.Proofs.ltOf cf) y x).flatMap enc ++ tl).toArray el (0, 0))]) := FnW.mk fun w hw => by
  obtain ⟨hb, hHb, _⟩ := hw.own _ List.mem_cons_self
  simp only at hb hHb
  have hlt : b < w.heap.size := (Array.getElem?_eq_some_iff.1 hb).1
  have hwd : ∀ (m : Nat) (dk : Array α) (os : Array Obj), dk.size = d.length → (X0.mk w H (own0 [(b, .cells (d.flatMap enc ++ tl).toArray el (0, 0))])).wd [(b, .cells (dk.toList.flatMap enc ++ tl).toArray el (0, 0))] H (Go.Proofs.sortWorldK enc k w b 0 m dk os) := by
    intro m dk os hs
    obtain ⟨f1, f2, f3, f4, f5, f6, f7⟩ := sortWorldK_facts (m := m) hk hb dk hs os
    refine ⟨fun p hp => ?_, by simp, fun c o hc => ?_, ⟨f4, f5, f6, f3, f7, fun c hc hp => ?_⟩, Hp.le.refl _, fun _ _ _ => rfl⟩
    · obtain rfl := List.mem_singleton.1 hp
      exact ⟨f1, hHb, fun _ hn => hn (by simp)⟩
    · have hcb : c ≠ b := fun e => by subst e; rw [hHb] at hc; cases hc
      exact (f2 c (hw.ltH hc) hcb).trans (hw.fro c o hc)
    · exact f2 c hc (fun e => hp (by subst e; simp))
  have hs0 := Go.Proofs.AnyQ.slices_SortFunc_total L k aE zE enc hk h1 cf hO g cb.toArray b 0 cap d.toArray w (fun args w => hE.h args w) (fun m os dk hs x y => ?_) (holdsK_of hk hb) hlt (by simpa using hsz) hT
  · refine callsIn_wide.2 (hs0.mono ?_)
    rintro e w' ⟨rfl, n, os, rfl⟩
    refine ⟨_, H, _, rfl, hwd n _ os ?_, rfl, rfl, rfl⟩
    simp [List.length_mergeSort]
  · have hs' : dk.size = d.length := by simpa using hs
    have hW := hwd m dk os hs'
    have hc := (hcmp x y).get _ hW.fro
    have hargs : (([Value.agg (enc x).toArray, .agg (enc y).toArray] ++ cb).toArray : Array Value) = #[.agg (enc x).toArray, .agg (enc y).toArray] ++ cb.toArray := by simp
    rw [hargs] at hc
    refine (callsIn_wide.1 hc).mono ?_
    rintro e w' ⟨v, H', rfl, _, _, hkp, rfl⟩
    exact ⟨rfl, keep_grow hkp⟩
end
end Go.Proofs.Ytchgfjclchhgmaa
