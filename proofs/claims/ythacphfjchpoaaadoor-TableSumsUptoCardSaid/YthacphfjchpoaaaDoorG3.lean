/- Own layer: slices.SortFunc over a slice of the walk's own, by the library's proved contract.
   Facts on the types and functions of the program, by program.
   Plain: spans in order, and what the strategies keep of them.
   Plain: matches, their order, and the matches of chosen spans.
   Plain: insertion into an ascending list from behind.
   Plain: matches and what a strategy keeps of them.
   Plain: what the laws about strategies say of lists. -/
import Derived.Shelf.SlSortCmp.NoneTotal
import Derived.Test.YthacphfjchpoaaaDoorProg
import Derived.Test.YthacphfjchpoaaaDoorG2
namespace Go.Proofs.YthacphfjchpoaaaDoor
open Go.RowKit

theorem flatK_list {α : Type} [Inhabited α] {enc : α → List Value} {k : Nat} (hk : ∀ x, (enc x).length = k) (d : Array α) : (Go.Sort.flatK enc k d).toList = d.toList.flatMap enc := by
  refine List.ext_getElem? fun t => ?_
  have hl : (d.toList.flatMap enc).length = d.size * k := by rw [flat_len hk]; simp
  by_cases ht : t < d.size * k
  · have k0 : 0 < k := by rcases Nat.eq_zero_or_pos k with h | h
                          · subst h; simp at ht
                          · exact h
    have hi : t / k < d.size := Nat.div_lt_of_lt_mul (by rw [Nat.mul_comm]; exact ht)
    have hm : t % k < k := Nat.mod_lt _ k0
    have h1 := Go.Sort.get_flatK enc k d t ht
    have hs : t < (Go.Sort.flatK enc k d).size := by simpa using ht
    rw [Array.getElem?_toList, Array.getElem?_eq_getElem hs, ← getElem!_pos (Go.Sort.flatK enc k d) t hs, h1]
    have hx : d.toList[t / k]? = some d[t / k]! := by rw [Array.getElem?_toList, Array.getElem?_eq_getElem hi, getElem!_pos d _ hi]
    have h2 := flat_elem hk d.toList (t / k) _ hx
    have h3 : (enc d[t / k]!)[t % k]? = (d.toList.flatMap enc)[t / k * k + t % k]? := by
      rw [← h2, List.getElem?_take, if_pos hm, List.getElem?_drop]
    have h4 : t / k * k + t % k = t := by rw [Nat.mul_comm]; exact Nat.div_add_mod t k
    rw [h4] at h3
    rw [← h3, List.getElem?_eq_getElem (by rw [hk]; exact hm), getElem!_pos (enc d[t / k]!) (t % k) (by rw [hk]; exact hm)]
  · have e1 : (Go.Sort.flatK enc k d).toList.length ≤ t := by rw [Array.length_toList, Go.Sort.size_flatK]; omega
    have e2 : (d.toList.flatMap enc).length ≤ t := by rw [hl]; omega
    rw [List.getElem?_eq_none e1, List.getElem?_eq_none e2]

theorem keep_grow {w w' : World} (h : Keep All w w') : ∃ q os', w' = Go.Sort.grow (w.drewN q) os' := by
  refine ⟨w'.drawn - w.drawn, w'.heap.extract w.heap.size w'.heap.size, ?_⟩
  have h1 := h.os
  have h2 := h.tape
  have h3 := h.output
  have h4 := h.drawn
  have hd : ∀ n (u : World), u.drewN n = { u with drawn := u.drawn + n } := by
    intro n u
    rfl
  rw [hd]
  have hh : w'.heap = w.heap ++ w'.heap.extract w.heap.size w'.heap.size := by
    refine Array.ext_getElem? fun i => ?_
    by_cases hi : i < w.heap.size
    · rw [Array.getElem?_append_left hi]; exact h.block i hi trivial
    · rw [Array.getElem?_append_right (by omega), Array.getElem?_extract]
      have := h.size
      by_cases hj : i < w'.heap.size
      · rw [if_pos (by omega)]; congr 1; omega
      · rw [if_neg (by omega), Array.getElem?_eq_none (by omega)]
  cases w' with
  | mk hp tp dr os out =>
    simp only at h1 h2 h3 h4 hh
    unfold Go.Sort.grow
    simp only
    rw [← hh, ← h1, ← h2, ← h3]
    congr 1
    omega

section
variable {P : Program} {α : Type} [Inhabited α] {enc : α → List Value} {k : Nat}
theorem holdsK_of {w : World} {b el : Nat} {d : List α} {tl : List Value} (hk : ∀ x, (enc x).length = k) (hb : w.heap[b]? = some (.cells (d.flatMap enc ++ tl).toArray el (0, 0))) : Go.Sort.HoldsK enc k w b 0 d.toArray := by
  intro j hj
  rw [Go.Sort.size_flatK] at hj
  have hf : (Go.Sort.flatK enc k d.toArray).toList = d.flatMap enc := flatK_list hk d.toArray
  have hl : (d.flatMap enc).length = d.length * k := flat_len hk d
  have hj' : j < (d.flatMap enc).length := by rw [hl]; simpa using hj
  constructor
  · have h1 : (Go.Sort.flatK enc k d.toArray)[j]! = (d.flatMap enc)[j] := by
      rw [getElem!_pos _ j (by simpa using hj)]
      rw [← Array.getElem_toList]
      simp only [hf]
    simp only [World.cell?, hb, Nat.zero_add, id]
    rw [h1]
    simp [List.getElem?_append_left hj', List.getElem?_eq_getElem hj']
  · simp [World.frozen?, hb]

theorem putRowK_heap {w : World} {b el : Nat} {d : List α} {tl : List Value} (hk : ∀ x, (enc x).length = k) (hb : w.heap[b]? = some (.cells (d.flatMap enc ++ tl).toArray el (0, 0))) (dk : Array α) (hs : dk.size = d.length) :
    (Go.Sort.putRowK enc k w b 0 dk).heap[b]? = some (.cells (dk.toList.flatMap enc ++ tl).toArray el (0, 0)) ∧ ∀ c, c ≠ b → (Go.Sort.putRowK enc k w b 0 dk).heap[c]? = w.heap[c]? := by
  unfold Go.Sort.putRowK Go.Sort.putRow Go.Sort.mapBlock
  constructor
  · simp only [Array.getElem?_modify, if_true, hb, Option.map_some, Go.Sort.onCells]
    congr 2
    refine Array.ext_getElem? fun t => ?_
    unfold Go.Sort.putCells
    have hf : (Go.Sort.flatK enc k dk).toList = dk.toList.flatMap enc := flatK_list hk dk
    have hl : (d.flatMap enc).length = d.length * k := flat_len hk d
    have hl2 : (dk.toList.flatMap enc).length = dk.size * k := by rw [flat_len hk]; simp
    rw [Array.getElem?_mapIdx, Go.Sort.size_flatK]
    by_cases ht : t < dk.size * k
    · have ht1 : t < (d.flatMap enc).length := by rw [hl, ← hs]; exact ht
      have e3 : ((d.flatMap enc ++ tl).toArray)[t]? = some ((d.flatMap enc)[t]'ht1) := by
        rw [List.getElem?_toArray, List.getElem?_append_left ht1, List.getElem?_eq_getElem ht1]
      rw [e3]
      simp only [Option.map_some, Nat.zero_le, Nat.zero_add, ht, and_self, if_true, Nat.sub_zero, id]
      rw [getElem!_pos _ t (by simpa using ht), ← Array.getElem_toList]
      simp only [hf]
      simp [List.getElem?_append_left (show t < (dk.toList.flatMap enc).length by rw [hl2]; exact ht), List.getElem?_eq_getElem (show t < (dk.toList.flatMap enc).length by rw [hl2]; exact ht)]
    · have e1 : ((d.flatMap enc ++ tl).toArray)[t]? = tl[t - dk.size * k]? := by
        rw [List.getElem?_toArray, List.getElem?_append_right (by rw [hl, ← hs]; omega), hl, ← hs]
      have e2 : ((dk.toList.flatMap enc ++ tl).toArray)[t]? = tl[t - dk.size * k]? := by
        rw [List.getElem?_toArray, List.getElem?_append_right (by rw [hl2]; omega), hl2]
      rw [e1, e2]
      cases tl[t - dk.size * k]? with
      | none => rfl
      | some v => simp [ht]
  · intro c hc
    simp only [Array.getElem?_modify]
    rw [if_neg (fun h => hc h.symm)]

theorem sortWorldK_facts {w : World} {b el m : Nat} {d : List α} {tl : List Value} (hk : ∀ x, (enc x).length = k) (hb : w.heap[b]? = some (.cells (d.flatMap enc ++ tl).toArray el (0, 0))) (dk : Array α) (hs : dk.size = d.length) (os : Array Obj) :
    let W := Go.Proofs.sortWorldK enc k w b 0 m dk os
    W.heap[b]? = some (.cells (dk.toList.flatMap enc ++ tl).toArray el (0, 0)) ∧ (∀ c, c < w.heap.size → c ≠ b → W.heap[c]? = w.heap[c]?) ∧ w.heap.size ≤ W.heap.size ∧ W.os = w.os ∧ W.tape = w.tape ∧ W.output = w.output ∧ w.drawn ≤ W.drawn := by
  have hlt : b < w.heap.size := (Array.getElem?_eq_some_iff.1 hb).1
  obtain ⟨h1, h2⟩ := putRowK_heap (w := Go.Sort.ahead w m) hk hb dk hs
  have hsz : (Go.Sort.putRowK enc k (Go.Sort.ahead w m) b 0 dk).heap.size = w.heap.size := by
    unfold Go.Sort.putRowK Go.Sort.putRow Go.Sort.mapBlock Go.Sort.ahead
    simp
  refine ⟨?_, ?_, ?_, rfl, rfl, rfl, ?_⟩
  · show ((Go.Sort.putRowK enc k (Go.Sort.ahead w m) b 0 dk).heap ++ os)[b]? = _
    rw [Array.getElem?_append_left (by rw [hsz]; exact hlt)]; exact h1
  · intro c hc hcb
    show ((Go.Sort.putRowK enc k (Go.Sort.ahead w m) b 0 dk).heap ++ os)[c]? = _
    rw [Array.getElem?_append_left (by rw [hsz]; exact hc)]; exact h2 c hcb
  · show w.heap.size ≤ ((Go.Sort.putRowK enc k (Go.Sort.ahead w m) b 0 dk).heap ++ os).size
    rw [Array.size_append, hsz]; omega
  · show w.drawn ≤ w.drawn + m
    omega

/-- slices.SortFunc under a comparison that parts whatever is not one. -/
theorem sort_FnW {ρ : Go.Shelf.Ren} (L : Go.Proofs.SlLaysF0.n6 P ρ) (aE : ∀ w, (isAgg (ρ.t 24)).run P w = .ok true w) (zE : ∀ w, (Go.sizeOf (ρ.t 24)).run P w = .ok k w) (hk : ∀ x, (enc x).length = k) (h1 : ∀ x, ∀ v ∈ enc x, v.oneCell' = true)
    (cf : α → α → Int) (hO : Go.Sort.SWO (Go.Proofs.ltOf cf)) (hT : ∀ x y, Go.Proofs.ltOf cf x y = false → Go.Proofs.ltOf cf y x = false → x = y) (g : Nat) [hE : Ent P g] (cb : List Value) {H : Hp} {b cap el : Nat} (d : List α) (tl : List Value)
    (hcmp : ∀ x y, Fn P g ([Value.agg (enc x).toArray, .agg (enc y).toArray] ++ cb).toArray H (fun v _ => v = .int .i64 (cf x y))) (hsz : d.length < 4611686018427387904) :
    FnW P (ρ.f 6) #[.slice (some ⟨b, 0, none⟩) d.length cap, .func (.func g) #[] cb.toArray] H [(b, .cells (d.flatMap enc ++ tl).toArray el (0, 0))]
      (fun v H' l' => v = .tuple #[] ∧ H' = H ∧ l' = [(b, .cells ((d.mergeSort fun x y => !(Go.Proofs.ltOf cf) y x).flatMap enc ++ tl).toArray el (0, 0))]) := FnW.mk fun w hw => by
  obtain ⟨hb, hHb, _⟩ := hw.own _ List.mem_cons_self
  simp only at hb hHb
  have hlt : b < w.heap.size := (Array.getElem?_eq_some_iff.1 hb).1
  have hwd : ∀ (m : Nat) (dk : Array α) (os : Array Obj), dk.size = d.length → (X0.mk w H (own0 [(b, .cells (d.flatMap enc ++ tl).toArray el (0, 0))])).wd [(b, .cells (dk.toList.flatMap enc ++ tl).toArray el (0, 0))] H (Go.Proofs.sortWorldK enc k w b 0 m dk os) := by
    intro m dk os hs
    obtain ⟨f1, f2, f3, f4, f5, f6, f7⟩ := sortWorldK_facts (m := m) hk hb dk hs os
    refine ⟨fun p hp => ?_, by simp, fun c o hc => ?_, ⟨f4, f5, f6, f3, f7, fun c hc hp => ?_⟩, Hp.le.refl _, fun _ _ _ => rfl⟩
    · obtain rfl := List.mem_singleton.1 hp
      exact ⟨f1, hHb, fun _ hn => hn (by simp)⟩
    · have hcb : c ≠ b := fun e => by subst e; rw [hHb] at hc; cases hc
      exact (f2 c (hw.ltH hc) hcb).trans (hw.fro c o hc)
    · exact f2 c hc (fun e => hp (by subst e; simp))
  have hs0 := Go.Proofs.AnyQ.slices_SortFunc_total L k aE zE enc hk h1 cf hO g cb.toArray b 0 cap d.toArray w (fun args w => hE.h args w) (fun m os dk hs x y => ?_) (holdsK_of hk hb) hlt (by simpa using hsz) hT
  · refine callsIn_wide.2 (hs0.mono ?_)
    rintro e w' ⟨rfl, n, os, rfl⟩
    refine ⟨_, H, _, rfl, hwd n _ os ?_, rfl, rfl, rfl⟩
    simp [List.length_mergeSort]
  · have hs' : dk.size = d.length := by simpa using hs
    have hW := hwd m dk os hs'
    have hc := (hcmp x y).get _ hW.fro
    have hargs : (([Value.agg (enc x).toArray, .agg (enc y).toArray] ++ cb).toArray : Array Value) = #[.agg (enc x).toArray, .agg (enc y).toArray] ++ cb.toArray := by simp
    rw [hargs] at hc
    refine (callsIn_wide.1 hc).mono ?_
    rintro e w' ⟨v, H', rfl, _, _, hkp, rfl⟩
    exact ⟨rfl, keep_grow hkp⟩
end
end Go.Proofs.YthacphfjchpoaaaDoor
namespace Go.Proofs.YthacphfjchpoaaaDoor

instance : IsOne Tryd.prog 1 := ⟨fun _ => by kernel_rfl, fun _ => by kernel_rfl⟩
instance : ElOf Tryd.prog 1 1 8 := elOf_mk (by kernel_rfl) (by decide)
instance : ZeroOf Tryd.prog 1 [.nilFunc] := ⟨.nilFunc, fun _ => by kernel_rfl, by kernel_rfl⟩
instance : IsOne Tryd.prog 2 := ⟨fun _ => by kernel_rfl, fun _ => by kernel_rfl⟩
instance : IntT Tryd.prog 2 .i64 := ⟨by kernel_rfl⟩
instance : ElOf Tryd.prog 2 1 8 := elOf_mk (by kernel_rfl) (by decide)
instance : ZeroOf Tryd.prog 2 [(.int .i64 0)] := ⟨(.int .i64 0), fun _ => by kernel_rfl, by kernel_rfl⟩
instance : IsOne Tryd.prog 3 := ⟨fun _ => by kernel_rfl, fun _ => by kernel_rfl⟩
instance : IntT Tryd.prog 3 .i64 := ⟨by kernel_rfl⟩
instance : ElOf Tryd.prog 3 1 8 := elOf_mk (by kernel_rfl) (by decide)
instance : ZeroOf Tryd.prog 3 [(.int .i64 0)] := ⟨(.int .i64 0), fun _ => by kernel_rfl, by kernel_rfl⟩
instance : IsOne Tryd.prog 4 := ⟨fun _ => by kernel_rfl, fun _ => by kernel_rfl⟩
instance : BoolT Tryd.prog 4 := ⟨by kernel_rfl⟩
instance : ElOf Tryd.prog 4 1 1 := elOf_mk (by kernel_rfl) (by decide)
instance : ZeroOf Tryd.prog 4 [(.bool false)] := ⟨(.bool false), fun _ => by kernel_rfl, by kernel_rfl⟩
instance : IsOne Tryd.prog 5 := ⟨fun _ => by kernel_rfl, fun _ => by kernel_rfl⟩
instance : IntT Tryd.prog 5 .u8 := ⟨by kernel_rfl⟩
instance : ElOf Tryd.prog 5 1 1 := elOf_mk (by kernel_rfl) (by decide)
instance : ZeroOf Tryd.prog 5 [(.int .u8 0)] := ⟨(.int .u8 0), fun _ => by kernel_rfl, by kernel_rfl⟩
instance : IsOne Tryd.prog 6 := ⟨fun _ => by kernel_rfl, fun _ => by kernel_rfl⟩
instance : IntT Tryd.prog 6 .u8 := ⟨by kernel_rfl⟩
instance : ElOf Tryd.prog 6 1 1 := elOf_mk (by kernel_rfl) (by decide)
instance : ZeroOf Tryd.prog 6 [(.int .u8 0)] := ⟨(.int .u8 0), fun _ => by kernel_rfl, by kernel_rfl⟩
instance : IsAgg Tryd.prog 7 4 := ⟨fun _ => by kernel_rfl, fun _ => by kernel_rfl⟩
instance : FldAt Tryd.prog 7 0 0 := ⟨fun _ _ _ => by kernel_rfl⟩
instance : FldAt Tryd.prog 7 1 1 := ⟨fun _ _ _ => by kernel_rfl⟩
instance : FldAt Tryd.prog 7 2 2 := ⟨fun _ _ _ => by kernel_rfl⟩
instance : FldAt Tryd.prog 7 3 3 := ⟨fun _ _ _ => by kernel_rfl⟩
instance : ElOf Tryd.prog 7 4 24 := elOf_mk (by kernel_rfl) (by decide)
instance : ZeroOf Tryd.prog 7 [(.int .i64 0), (.int .i64 0), (.bool false), (.int .u8 0)] := ⟨(.agg #[(.int .i64 0), (.int .i64 0), (.bool false), (.int .u8 0)]), fun _ => by kernel_rfl, by kernel_rfl⟩
instance : PlacesOf Tryd.prog 7 [(0, 1), (1, 1), (2, 1), (3, 1)] [(.int .i64 0), (.int .i64 0), (.bool false), (.int .u8 0)] := placesOf_mk (Tryd.prog.fieldsOf 7) (.agg #[(.int .i64 0), (.int .i64 0), (.bool false), (.int .u8 0)]) (fun _ => by kernel_rfl) (by kernel_rfl) (by kernel_rfl) (fun _ => by kernel_rfl)
instance : IsAgg Tryd.prog 8 4 := ⟨fun _ => by kernel_rfl, fun _ => by kernel_rfl⟩
instance : FldAt Tryd.prog 8 0 0 := ⟨fun _ _ _ => by kernel_rfl⟩
instance : FldAt Tryd.prog 8 1 1 := ⟨fun _ _ _ => by kernel_rfl⟩
instance : FldAt Tryd.prog 8 2 2 := ⟨fun _ _ _ => by kernel_rfl⟩
instance : FldAt Tryd.prog 8 3 3 := ⟨fun _ _ _ => by kernel_rfl⟩
instance : ElOf Tryd.prog 8 4 24 := elOf_mk (by kernel_rfl) (by decide)
instance : ZeroOf Tryd.prog 8 [(.int .i64 0), (.int .i64 0), (.bool false), (.int .u8 0)] := ⟨(.agg #[(.int .i64 0), (.int .i64 0), (.bool false), (.int .u8 0)]), fun _ => by kernel_rfl, by kernel_rfl⟩
instance : PlacesOf Tryd.prog 8 [(0, 1), (1, 1), (2, 1), (3, 1)] [(.int .i64 0), (.int .i64 0), (.bool false), (.int .u8 0)] := placesOf_mk (Tryd.prog.fieldsOf 8) (.agg #[(.int .i64 0), (.int .i64 0), (.bool false), (.int .u8 0)]) (fun _ => by kernel_rfl) (by kernel_rfl) (by kernel_rfl) (fun _ => by kernel_rfl)
instance : IsOne Tryd.prog 9 := ⟨fun _ => by kernel_rfl, fun _ => by kernel_rfl⟩
instance : NotInt Tryd.prog 9 := ⟨.inl (by kernel_rfl)⟩
instance : StrT Tryd.prog 9 := ⟨by kernel_rfl⟩
instance : ElOf Tryd.prog 9 1 16 := elOf_mk (by kernel_rfl) (by decide)
instance : ZeroOf Tryd.prog 9 [(.string ⟨#[]⟩)] := ⟨(.string ⟨#[]⟩), fun _ => by kernel_rfl, by kernel_rfl⟩
instance : IsOne Tryd.prog 10 := ⟨fun _ => by kernel_rfl, fun _ => by kernel_rfl⟩
instance : NotInt Tryd.prog 10 := ⟨.inl (by kernel_rfl)⟩
instance : StrT Tryd.prog 10 := ⟨by kernel_rfl⟩
instance : ElOf Tryd.prog 10 1 16 := elOf_mk (by kernel_rfl) (by decide)
instance : ZeroOf Tryd.prog 10 [(.string ⟨#[]⟩)] := ⟨(.string ⟨#[]⟩), fun _ => by kernel_rfl, by kernel_rfl⟩
instance : IsOne Tryd.prog 11 := ⟨fun _ => by kernel_rfl, fun _ => by kernel_rfl⟩
instance : NotInt Tryd.prog 11 := ⟨.inl (by kernel_rfl)⟩
instance : StrT Tryd.prog 11 := ⟨by kernel_rfl⟩
instance : ElOf Tryd.prog 11 1 16 := elOf_mk (by kernel_rfl) (by decide)
instance : ZeroOf Tryd.prog 11 [(.string ⟨#[]⟩)] := ⟨(.string ⟨#[]⟩), fun _ => by kernel_rfl, by kernel_rfl⟩
instance : IsOne Tryd.prog 12 := ⟨fun _ => by kernel_rfl, fun _ => by kernel_rfl⟩
instance : IntT Tryd.prog 12 .u64 := ⟨by kernel_rfl⟩
instance : ElOf Tryd.prog 12 1 8 := elOf_mk (by kernel_rfl) (by decide)
instance : ZeroOf Tryd.prog 12 [(.int .u64 0)] := ⟨(.int .u64 0), fun _ => by kernel_rfl, by kernel_rfl⟩
instance : IsAgg Tryd.prog 13 2 := ⟨fun _ => by kernel_rfl, fun _ => by kernel_rfl⟩
instance : FldAt Tryd.prog 13 0 0 := ⟨fun _ _ _ => by kernel_rfl⟩
instance : FldAt Tryd.prog 13 1 1 := ⟨fun _ _ _ => by kernel_rfl⟩
instance : ElOf Tryd.prog 13 2 24 := elOf_mk (by kernel_rfl) (by decide)
instance : ZeroOf Tryd.prog 13 [(.string ⟨#[]⟩), (.int .u64 0)] := ⟨(.agg #[(.string ⟨#[]⟩), (.int .u64 0)]), fun _ => by kernel_rfl, by kernel_rfl⟩
instance : PlacesOf Tryd.prog 13 [(0, 1), (1, 1)] [(.string ⟨#[]⟩), (.int .u64 0)] := placesOf_mk (Tryd.prog.fieldsOf 13) (.agg #[(.string ⟨#[]⟩), (.int .u64 0)]) (fun _ => by kernel_rfl) (by kernel_rfl) (by kernel_rfl) (fun _ => by kernel_rfl)
instance : IsAgg Tryd.prog 14 2 := ⟨fun _ => by kernel_rfl, fun _ => by kernel_rfl⟩
instance : FldAt Tryd.prog 14 0 0 := ⟨fun _ _ _ => by kernel_rfl⟩
instance : FldAt Tryd.prog 14 1 1 := ⟨fun _ _ _ => by kernel_rfl⟩
instance : ElOf Tryd.prog 14 2 24 := elOf_mk (by kernel_rfl) (by decide)
instance : ZeroOf Tryd.prog 14 [(.string ⟨#[]⟩), (.int .u64 0)] := ⟨(.agg #[(.string ⟨#[]⟩), (.int .u64 0)]), fun _ => by kernel_rfl, by kernel_rfl⟩
instance : PlacesOf Tryd.prog 14 [(0, 1), (1, 1)] [(.string ⟨#[]⟩), (.int .u64 0)] := placesOf_mk (Tryd.prog.fieldsOf 14) (.agg #[(.string ⟨#[]⟩), (.int .u64 0)]) (fun _ => by kernel_rfl) (by kernel_rfl) (by kernel_rfl) (fun _ => by kernel_rfl)
instance : IsOne Tryd.prog 15 := ⟨fun _ => by kernel_rfl, fun _ => by kernel_rfl⟩
instance : ElOf Tryd.prog 15 1 8 := elOf_mk (by kernel_rfl) (by decide)
instance : ZeroOf Tryd.prog 15 [(.pointer none)] := ⟨(.pointer none), fun _ => by kernel_rfl, by kernel_rfl⟩
instance : IsOne Tryd.prog 16 := ⟨fun _ => by kernel_rfl, fun _ => by kernel_rfl⟩
instance : ElOf Tryd.prog 16 1 8 := elOf_mk (by kernel_rfl) (by decide)
instance : ZeroOf Tryd.prog 16 [(.pointer none)] := ⟨(.pointer none), fun _ => by kernel_rfl, by kernel_rfl⟩
instance : IsOne Tryd.prog 17 := ⟨fun _ => by kernel_rfl, fun _ => by kernel_rfl⟩
instance : ElOf Tryd.prog 17 1 8 := elOf_mk (by kernel_rfl) (by decide)
instance : ZeroOf Tryd.prog 17 [(.pointer none)] := ⟨(.pointer none), fun _ => by kernel_rfl, by kernel_rfl⟩
instance : IsAgg Tryd.prog 18 1 := ⟨fun _ => by kernel_rfl, fun _ => by kernel_rfl⟩
instance : FldAt Tryd.prog 18 0 0 := ⟨fun _ _ _ => by kernel_rfl⟩
instance : ElOf Tryd.prog 18 1 8 := elOf_mk (by kernel_rfl) (by decide)
instance : ZeroOf Tryd.prog 18 [(.pointer none)] := ⟨(.agg #[(.pointer none)]), fun _ => by kernel_rfl, by kernel_rfl⟩
instance : PlacesOf Tryd.prog 18 [(0, 1)] [(.pointer none)] := placesOf_mk (Tryd.prog.fieldsOf 18) (.agg #[(.pointer none)]) (fun _ => by kernel_rfl) (by kernel_rfl) (by kernel_rfl) (fun _ => by kernel_rfl)
instance : IsAgg Tryd.prog 19 1 := ⟨fun _ => by kernel_rfl, fun _ => by kernel_rfl⟩
instance : FldAt Tryd.prog 19 0 0 := ⟨fun _ _ _ => by kernel_rfl⟩
instance : ElOf Tryd.prog 19 1 8 := elOf_mk (by kernel_rfl) (by decide)
instance : ZeroOf Tryd.prog 19 [(.pointer none)] := ⟨(.agg #[(.pointer none)]), fun _ => by kernel_rfl, by kernel_rfl⟩
instance : PlacesOf Tryd.prog 19 [(0, 1)] [(.pointer none)] := placesOf_mk (Tryd.prog.fieldsOf 19) (.agg #[(.pointer none)]) (fun _ => by kernel_rfl) (by kernel_rfl) (by kernel_rfl) (fun _ => by kernel_rfl)
instance : IsOne Tryd.prog 20 := ⟨fun _ => by kernel_rfl, fun _ => by kernel_rfl⟩
instance : ElOf Tryd.prog 20 1 16 := elOf_mk (by kernel_rfl) (by decide)
instance : ZeroOf Tryd.prog 20 [.nilIface] := ⟨.nilIface, fun _ => by kernel_rfl, by kernel_rfl⟩
instance : IsOne Tryd.prog 21 := ⟨fun _ => by kernel_rfl, fun _ => by kernel_rfl⟩
instance : IntT Tryd.prog 21 .i32 := ⟨by kernel_rfl⟩
instance : ElOf Tryd.prog 21 1 4 := elOf_mk (by kernel_rfl) (by decide)
instance : ZeroOf Tryd.prog 21 [(.int .i32 0)] := ⟨(.int .i32 0), fun _ => by kernel_rfl, by kernel_rfl⟩
instance : IsOne Tryd.prog 22 := ⟨fun _ => by kernel_rfl, fun _ => by kernel_rfl⟩
instance : NotInt Tryd.prog 22 := ⟨.inr ⟨34, by kernel_rfl⟩⟩
instance : SlOf Tryd.prog 22 34 2 := ⟨by kernel_rfl, fun _ => by kernel_rfl⟩
instance : ElOf Tryd.prog 22 1 24 := elOf_mk (by kernel_rfl) (by decide)
instance : ZeroOf Tryd.prog 22 [(.slice none 0 0)] := ⟨(.slice none 0 0), fun _ => by kernel_rfl, by kernel_rfl⟩
instance : IsOne Tryd.prog 23 := ⟨fun _ => by kernel_rfl, fun _ => by kernel_rfl⟩
instance : ElOf Tryd.prog 23 1 8 := elOf_mk (by kernel_rfl) (by decide)
instance : ZeroOf Tryd.prog 23 [.nilFunc] := ⟨.nilFunc, fun _ => by kernel_rfl, by kernel_rfl⟩
instance : IsOne Tryd.prog 24 := ⟨fun _ => by kernel_rfl, fun _ => by kernel_rfl⟩
instance : IntT Tryd.prog 24 .i64 := ⟨by kernel_rfl⟩
instance : ElOf Tryd.prog 24 1 8 := elOf_mk (by kernel_rfl) (by decide)
instance : ZeroOf Tryd.prog 24 [(.int .i64 0)] := ⟨(.int .i64 0), fun _ => by kernel_rfl, by kernel_rfl⟩
instance : IsOne Tryd.prog 26 := ⟨fun _ => by kernel_rfl, fun _ => by kernel_rfl⟩
instance : ElOf Tryd.prog 26 1 8 := elOf_mk (by kernel_rfl) (by decide)
instance : ZeroOf Tryd.prog 26 [.nilFunc] := ⟨.nilFunc, fun _ => by kernel_rfl, by kernel_rfl⟩
instance : IsOne Tryd.prog 27 := ⟨fun _ => by kernel_rfl, fun _ => by kernel_rfl⟩
instance : ElOf Tryd.prog 27 1 8 := elOf_mk (by kernel_rfl) (by decide)
instance : ZeroOf Tryd.prog 27 [.nilFunc] := ⟨.nilFunc, fun _ => by kernel_rfl, by kernel_rfl⟩
instance : IsOne Tryd.prog 28 := ⟨fun _ => by kernel_rfl, fun _ => by kernel_rfl⟩
instance : ElOf Tryd.prog 28 1 8 := elOf_mk (by kernel_rfl) (by decide)
instance : ZeroOf Tryd.prog 28 [.nilFunc] := ⟨.nilFunc, fun _ => by kernel_rfl, by kernel_rfl⟩
instance : IsOne Tryd.prog 29 := ⟨fun _ => by kernel_rfl, fun _ => by kernel_rfl⟩
instance : ElOf Tryd.prog 29 1 8 := elOf_mk (by kernel_rfl) (by decide)
instance : ZeroOf Tryd.prog 29 [.nilFunc] := ⟨.nilFunc, fun _ => by kernel_rfl, by kernel_rfl⟩
instance : IsOne Tryd.prog 30 := ⟨fun _ => by kernel_rfl, fun _ => by kernel_rfl⟩
instance : ElOf Tryd.prog 30 1 8 := elOf_mk (by kernel_rfl) (by decide)
instance : ZeroOf Tryd.prog 30 [.nilFunc] := ⟨.nilFunc, fun _ => by kernel_rfl, by kernel_rfl⟩
instance : IsOne Tryd.prog 31 := ⟨fun _ => by kernel_rfl, fun _ => by kernel_rfl⟩
instance : ElOf Tryd.prog 31 1 8 := elOf_mk (by kernel_rfl) (by decide)
instance : ZeroOf Tryd.prog 31 [.nilFunc] := ⟨.nilFunc, fun _ => by kernel_rfl, by kernel_rfl⟩
instance : IsOne Tryd.prog 32 := ⟨fun _ => by kernel_rfl, fun _ => by kernel_rfl⟩
instance : NotInt Tryd.prog 32 := ⟨.inr ⟨9, by kernel_rfl⟩⟩
instance : SlOf Tryd.prog 32 9 1 := ⟨by kernel_rfl, fun _ => by kernel_rfl⟩
instance : ElOf Tryd.prog 32 1 24 := elOf_mk (by kernel_rfl) (by decide)
instance : ZeroOf Tryd.prog 32 [(.slice none 0 0)] := ⟨(.slice none 0 0), fun _ => by kernel_rfl, by kernel_rfl⟩
instance : IsAgg Tryd.prog 33 2 := ⟨fun _ => by kernel_rfl, fun _ => by kernel_rfl⟩
instance : FldAt Tryd.prog 33 0 0 := ⟨fun _ _ _ => by kernel_rfl⟩
instance : FldAt Tryd.prog 33 1 1 := ⟨fun _ _ _ => by kernel_rfl⟩
instance : ElOf Tryd.prog 33 2 32 := elOf_mk (by kernel_rfl) (by decide)
instance : ZeroOf Tryd.prog 33 [(.slice none 0 0), (.int .i64 0)] := ⟨(.agg #[(.slice none 0 0), (.int .i64 0)]), fun _ => by kernel_rfl, by kernel_rfl⟩
instance : PlacesOf Tryd.prog 33 [(0, 1), (1, 1)] [(.slice none 0 0), (.int .i64 0)] := placesOf_mk (Tryd.prog.fieldsOf 33) (.agg #[(.slice none 0 0), (.int .i64 0)]) (fun _ => by kernel_rfl) (by kernel_rfl) (by kernel_rfl) (fun _ => by kernel_rfl)
instance : IsAgg Tryd.prog 34 2 := ⟨fun _ => by kernel_rfl, fun _ => by kernel_rfl⟩
instance : FldAt Tryd.prog 34 0 0 := ⟨fun _ _ _ => by kernel_rfl⟩
instance : FldAt Tryd.prog 34 1 1 := ⟨fun _ _ _ => by kernel_rfl⟩
instance : ElOf Tryd.prog 34 2 32 := elOf_mk (by kernel_rfl) (by decide)
instance : ZeroOf Tryd.prog 34 [(.slice none 0 0), (.int .i64 0)] := ⟨(.agg #[(.slice none 0 0), (.int .i64 0)]), fun _ => by kernel_rfl, by kernel_rfl⟩
instance : PlacesOf Tryd.prog 34 [(0, 1), (1, 1)] [(.slice none 0 0), (.int .i64 0)] := placesOf_mk (Tryd.prog.fieldsOf 34) (.agg #[(.slice none 0 0), (.int .i64 0)]) (fun _ => by kernel_rfl) (by kernel_rfl) (by kernel_rfl) (fun _ => by kernel_rfl)
instance : IsOne Tryd.prog 35 := ⟨fun _ => by kernel_rfl, fun _ => by kernel_rfl⟩
instance : ElOf Tryd.prog 35 1 8 := elOf_mk (by kernel_rfl) (by decide)
instance : ZeroOf Tryd.prog 35 [.nilFunc] := ⟨.nilFunc, fun _ => by kernel_rfl, by kernel_rfl⟩
instance : IsOne Tryd.prog 36 := ⟨fun _ => by kernel_rfl, fun _ => by kernel_rfl⟩
instance : ElOf Tryd.prog 36 1 8 := elOf_mk (by kernel_rfl) (by decide)
instance : ZeroOf Tryd.prog 36 [.nilFunc] := ⟨.nilFunc, fun _ => by kernel_rfl, by kernel_rfl⟩
instance : IsOne Tryd.prog 37 := ⟨fun _ => by kernel_rfl, fun _ => by kernel_rfl⟩
instance : ElOf Tryd.prog 37 1 8 := elOf_mk (by kernel_rfl) (by decide)
instance : ZeroOf Tryd.prog 37 [(.map none)] := ⟨(.map none), fun _ => by kernel_rfl, by kernel_rfl⟩
instance : IsOne Tryd.prog 38 := ⟨fun _ => by kernel_rfl, fun _ => by kernel_rfl⟩
instance : ElOf Tryd.prog 38 1 8 := elOf_mk (by kernel_rfl) (by decide)
instance : ZeroOf Tryd.prog 38 [.nilFunc] := ⟨.nilFunc, fun _ => by kernel_rfl, by kernel_rfl⟩
instance : IsOne Tryd.prog 39 := ⟨fun _ => by kernel_rfl, fun _ => by kernel_rfl⟩
instance : ElOf Tryd.prog 39 1 8 := elOf_mk (by kernel_rfl) (by decide)
instance : ZeroOf Tryd.prog 39 [.nilFunc] := ⟨.nilFunc, fun _ => by kernel_rfl, by kernel_rfl⟩
instance : IsOne Tryd.prog 40 := ⟨fun _ => by kernel_rfl, fun _ => by kernel_rfl⟩
instance : ElOf Tryd.prog 40 1 8 := elOf_mk (by kernel_rfl) (by decide)
instance : ZeroOf Tryd.prog 40 [.nilFunc] := ⟨.nilFunc, fun _ => by kernel_rfl, by kernel_rfl⟩
instance : IsOne Tryd.prog 41 := ⟨fun _ => by kernel_rfl, fun _ => by kernel_rfl⟩
instance : ElOf Tryd.prog 41 1 8 := elOf_mk (by kernel_rfl) (by decide)
instance : ZeroOf Tryd.prog 41 [.nilFunc] := ⟨.nilFunc, fun _ => by kernel_rfl, by kernel_rfl⟩
instance : IsOne Tryd.prog 42 := ⟨fun _ => by kernel_rfl, fun _ => by kernel_rfl⟩
instance : ElOf Tryd.prog 42 1 8 := elOf_mk (by kernel_rfl) (by decide)
instance : ZeroOf Tryd.prog 42 [.nilFunc] := ⟨.nilFunc, fun _ => by kernel_rfl, by kernel_rfl⟩
instance : IsAgg Tryd.prog 43 2 := ⟨fun _ => by kernel_rfl, fun _ => by kernel_rfl⟩
instance : FldAt Tryd.prog 43 0 0 := ⟨fun _ _ _ => by kernel_rfl⟩
instance : FldAt Tryd.prog 43 1 1 := ⟨fun _ _ _ => by kernel_rfl⟩
instance : ElOf Tryd.prog 43 2 24 := elOf_mk (by kernel_rfl) (by decide)
instance : ZeroOf Tryd.prog 43 [(.string ⟨#[]⟩), (.bool false)] := ⟨(.agg #[(.string ⟨#[]⟩), (.bool false)]), fun _ => by kernel_rfl, by kernel_rfl⟩
instance : PlacesOf Tryd.prog 43 [(0, 1), (1, 1)] [(.string ⟨#[]⟩), (.bool false)] := placesOf_mk (Tryd.prog.fieldsOf 43) (.agg #[(.string ⟨#[]⟩), (.bool false)]) (fun _ => by kernel_rfl) (by kernel_rfl) (by kernel_rfl) (fun _ => by kernel_rfl)
instance : IsAgg Tryd.prog 44 2 := ⟨fun _ => by kernel_rfl, fun _ => by kernel_rfl⟩
instance : FldAt Tryd.prog 44 0 0 := ⟨fun _ _ _ => by kernel_rfl⟩
instance : FldAt Tryd.prog 44 1 1 := ⟨fun _ _ _ => by kernel_rfl⟩
set_option maxRecDepth 100000 in
instance : FlatEq Tryd.prog 44 [.str, .bool] := ⟨by kernel_rfl, .cons (by kernel_rfl) (of_decide_eq_true (by kernel_rfl)) (fun _ => by kernel_rfl) (by kernel_rfl) (.cons (by kernel_rfl) (of_decide_eq_true (by kernel_rfl)) (fun _ => by kernel_rfl) (by kernel_rfl) (.nil)), by kernel_rfl, by kernel_rfl⟩
instance : ElOf Tryd.prog 44 2 24 := elOf_mk (by kernel_rfl) (by decide)
instance : ZeroOf Tryd.prog 44 [(.string ⟨#[]⟩), (.bool false)] := ⟨(.agg #[(.string ⟨#[]⟩), (.bool false)]), fun _ => by kernel_rfl, by kernel_rfl⟩
instance : PlacesOf Tryd.prog 44 [(0, 1), (1, 1)] [(.string ⟨#[]⟩), (.bool false)] := placesOf_mk (Tryd.prog.fieldsOf 44) (.agg #[(.string ⟨#[]⟩), (.bool false)]) (fun _ => by kernel_rfl) (by kernel_rfl) (by kernel_rfl) (fun _ => by kernel_rfl)
instance : IsOne Tryd.prog 45 := ⟨fun _ => by kernel_rfl, fun _ => by kernel_rfl⟩
instance : NotInt Tryd.prog 45 := ⟨.inr ⟨44, by kernel_rfl⟩⟩
instance : SlOf Tryd.prog 45 44 2 := ⟨by kernel_rfl, fun _ => by kernel_rfl⟩
instance : ElOf Tryd.prog 45 1 24 := elOf_mk (by kernel_rfl) (by decide)
instance : ZeroOf Tryd.prog 45 [(.slice none 0 0)] := ⟨(.slice none 0 0), fun _ => by kernel_rfl, by kernel_rfl⟩
instance : IsOne Tryd.prog 46 := ⟨fun _ => by kernel_rfl, fun _ => by kernel_rfl⟩
instance : NotInt Tryd.prog 46 := ⟨.inr ⟨32, by kernel_rfl⟩⟩
instance : SlOf Tryd.prog 46 32 1 := ⟨by kernel_rfl, fun _ => by kernel_rfl⟩
instance : ElOf Tryd.prog 46 1 24 := elOf_mk (by kernel_rfl) (by decide)
instance : ZeroOf Tryd.prog 46 [(.slice none 0 0)] := ⟨(.slice none 0 0), fun _ => by kernel_rfl, by kernel_rfl⟩
instance : IsOne Tryd.prog 47 := ⟨fun _ => by kernel_rfl, fun _ => by kernel_rfl⟩
instance : NotInt Tryd.prog 47 := ⟨.inr ⟨134, by kernel_rfl⟩⟩
instance : SlOf Tryd.prog 47 134 2 := ⟨by kernel_rfl, fun _ => by kernel_rfl⟩
instance : ElOf Tryd.prog 47 1 24 := elOf_mk (by kernel_rfl) (by decide)
instance : ZeroOf Tryd.prog 47 [(.slice none 0 0)] := ⟨(.slice none 0 0), fun _ => by kernel_rfl, by kernel_rfl⟩
instance : IsAgg Tryd.prog 48 4 := ⟨fun _ => by kernel_rfl, fun _ => by kernel_rfl⟩
instance : FldAt Tryd.prog 48 0 0 := ⟨fun _ _ _ => by kernel_rfl⟩
instance : FldAt Tryd.prog 48 1 1 := ⟨fun _ _ _ => by kernel_rfl⟩
instance : FldAt Tryd.prog 48 2 2 := ⟨fun _ _ _ => by kernel_rfl⟩
instance : FldAt Tryd.prog 48 3 3 := ⟨fun _ _ _ => by kernel_rfl⟩
instance : ElOf Tryd.prog 48 4 56 := elOf_mk (by kernel_rfl) (by decide)
instance : ZeroOf Tryd.prog 48 [(.string ⟨#[]⟩), (.int .i64 0), (.int .i64 0), (.slice none 0 0)] := ⟨(.agg #[(.string ⟨#[]⟩), (.int .i64 0), (.int .i64 0), (.slice none 0 0)]), fun _ => by kernel_rfl, by kernel_rfl⟩
instance : PlacesOf Tryd.prog 48 [(0, 1), (1, 1), (2, 1), (3, 1)] [(.string ⟨#[]⟩), (.int .i64 0), (.int .i64 0), (.slice none 0 0)] := placesOf_mk (Tryd.prog.fieldsOf 48) (.agg #[(.string ⟨#[]⟩), (.int .i64 0), (.int .i64 0), (.slice none 0 0)]) (fun _ => by kernel_rfl) (by kernel_rfl) (by kernel_rfl) (fun _ => by kernel_rfl)
instance : IsAgg Tryd.prog 49 4 := ⟨fun _ => by kernel_rfl, fun _ => by kernel_rfl⟩
instance : FldAt Tryd.prog 49 0 0 := ⟨fun _ _ _ => by kernel_rfl⟩
instance : FldAt Tryd.prog 49 1 1 := ⟨fun _ _ _ => by kernel_rfl⟩
instance : FldAt Tryd.prog 49 2 2 := ⟨fun _ _ _ => by kernel_rfl⟩
instance : FldAt Tryd.prog 49 3 3 := ⟨fun _ _ _ => by kernel_rfl⟩
instance : ElOf Tryd.prog 49 4 56 := elOf_mk (by kernel_rfl) (by decide)
instance : ZeroOf Tryd.prog 49 [(.string ⟨#[]⟩), (.int .i64 0), (.int .i64 0), (.slice none 0 0)] := ⟨(.agg #[(.string ⟨#[]⟩), (.int .i64 0), (.int .i64 0), (.slice none 0 0)]), fun _ => by kernel_rfl, by kernel_rfl⟩
instance : PlacesOf Tryd.prog 49 [(0, 1), (1, 1), (2, 1), (3, 1)] [(.string ⟨#[]⟩), (.int .i64 0), (.int .i64 0), (.slice none 0 0)] := placesOf_mk (Tryd.prog.fieldsOf 49) (.agg #[(.string ⟨#[]⟩), (.int .i64 0), (.int .i64 0), (.slice none 0 0)]) (fun _ => by kernel_rfl) (by kernel_rfl) (by kernel_rfl) (fun _ => by kernel_rfl)
instance : IsOne Tryd.prog 50 := ⟨fun _ => by kernel_rfl, fun _ => by kernel_rfl⟩
instance : NotInt Tryd.prog 50 := ⟨.inr ⟨49, by kernel_rfl⟩⟩
instance : SlOf Tryd.prog 50 49 4 := ⟨by kernel_rfl, fun _ => by kernel_rfl⟩
instance : ElOf Tryd.prog 50 1 24 := elOf_mk (by kernel_rfl) (by decide)
instance : ZeroOf Tryd.prog 50 [(.slice none 0 0)] := ⟨(.slice none 0 0), fun _ => by kernel_rfl, by kernel_rfl⟩
instance : IsOne Tryd.prog 51 := ⟨fun _ => by kernel_rfl, fun _ => by kernel_rfl⟩
instance : NotInt Tryd.prog 51 := ⟨.inr ⟨117, by kernel_rfl⟩⟩
instance : SlOf Tryd.prog 51 117 4 := ⟨by kernel_rfl, fun _ => by kernel_rfl⟩
instance : ElOf Tryd.prog 51 1 24 := elOf_mk (by kernel_rfl) (by decide)
instance : ZeroOf Tryd.prog 51 [(.slice none 0 0)] := ⟨(.slice none 0 0), fun _ => by kernel_rfl, by kernel_rfl⟩
instance : IsOne Tryd.prog 52 := ⟨fun _ => by kernel_rfl, fun _ => by kernel_rfl⟩
instance : NotInt Tryd.prog 52 := ⟨.inr ⟨175, by kernel_rfl⟩⟩
instance : SlOf Tryd.prog 52 175 4 := ⟨by kernel_rfl, fun _ => by kernel_rfl⟩
instance : ElOf Tryd.prog 52 1 24 := elOf_mk (by kernel_rfl) (by decide)
instance : ZeroOf Tryd.prog 52 [(.slice none 0 0)] := ⟨(.slice none 0 0), fun _ => by kernel_rfl, by kernel_rfl⟩
instance : IsOne Tryd.prog 53 := ⟨fun _ => by kernel_rfl, fun _ => by kernel_rfl⟩
instance : NotInt Tryd.prog 53 := ⟨.inr ⟨3, by kernel_rfl⟩⟩
instance : SlOf Tryd.prog 53 3 1 := ⟨by kernel_rfl, fun _ => by kernel_rfl⟩
instance : ElOf Tryd.prog 53 1 24 := elOf_mk (by kernel_rfl) (by decide)
instance : ZeroOf Tryd.prog 53 [(.slice none 0 0)] := ⟨(.slice none 0 0), fun _ => by kernel_rfl, by kernel_rfl⟩
instance : IsAgg Tryd.prog 54 7 := ⟨fun _ => by kernel_rfl, fun _ => by kernel_rfl⟩
instance : FldAt Tryd.prog 54 0 0 := ⟨fun _ _ _ => by kernel_rfl⟩
instance : FldAt Tryd.prog 54 1 1 := ⟨fun _ _ _ => by kernel_rfl⟩
instance : FldAt Tryd.prog 54 2 2 := ⟨fun _ _ _ => by kernel_rfl⟩
instance : FldAt Tryd.prog 54 3 3 := ⟨fun _ _ _ => by kernel_rfl⟩
instance : FldAt Tryd.prog 54 4 4 := ⟨fun _ _ _ => by kernel_rfl⟩
instance : FldAt Tryd.prog 54 5 5 := ⟨fun _ _ _ => by kernel_rfl⟩
instance : FldAt Tryd.prog 54 6 6 := ⟨fun _ _ _ => by kernel_rfl⟩
instance : ElOf Tryd.prog 54 7 168 := elOf_mk (by kernel_rfl) (by decide)
instance : ZeroOf Tryd.prog 54 [(.slice none 0 0), (.slice none 0 0), (.slice none 0 0), (.slice none 0 0), (.slice none 0 0), (.slice none 0 0), (.slice none 0 0)] := ⟨(.agg #[(.slice none 0 0), (.slice none 0 0), (.slice none 0 0), (.slice none 0 0), (.slice none 0 0), (.slice none 0 0), (.slice none 0 0)]), fun _ => by kernel_rfl, by kernel_rfl⟩
instance : PlacesOf Tryd.prog 54 [(0, 1), (1, 1), (2, 1), (3, 1), (4, 1), (5, 1), (6, 1)] [(.slice none 0 0), (.slice none 0 0), (.slice none 0 0), (.slice none 0 0), (.slice none 0 0), (.slice none 0 0), (.slice none 0 0)] := placesOf_mk (Tryd.prog.fieldsOf 54) (.agg #[(.slice none 0 0), (.slice none 0 0), (.slice none 0 0), (.slice none 0 0), (.slice none 0 0), (.slice none 0 0), (.slice none 0 0)]) (fun _ => by kernel_rfl) (by kernel_rfl) (by kernel_rfl) (fun _ => by kernel_rfl)
instance : IsAgg Tryd.prog 55 7 := ⟨fun _ => by kernel_rfl, fun _ => by kernel_rfl⟩
instance : FldAt Tryd.prog 55 0 0 := ⟨fun _ _ _ => by kernel_rfl⟩
instance : FldAt Tryd.prog 55 1 1 := ⟨fun _ _ _ => by kernel_rfl⟩
instance : FldAt Tryd.prog 55 2 2 := ⟨fun _ _ _ => by kernel_rfl⟩
instance : FldAt Tryd.prog 55 3 3 := ⟨fun _ _ _ => by kernel_rfl⟩
instance : FldAt Tryd.prog 55 4 4 := ⟨fun _ _ _ => by kernel_rfl⟩
instance : FldAt Tryd.prog 55 5 5 := ⟨fun _ _ _ => by kernel_rfl⟩
instance : FldAt Tryd.prog 55 6 6 := ⟨fun _ _ _ => by kernel_rfl⟩
instance : ElOf Tryd.prog 55 7 168 := elOf_mk (by kernel_rfl) (by decide)
instance : ZeroOf Tryd.prog 55 [(.slice none 0 0), (.slice none 0 0), (.slice none 0 0), (.slice none 0 0), (.slice none 0 0), (.slice none 0 0), (.slice none 0 0)] := ⟨(.agg #[(.slice none 0 0), (.slice none 0 0), (.slice none 0 0), (.slice none 0 0), (.slice none 0 0), (.slice none 0 0), (.slice none 0 0)]), fun _ => by kernel_rfl, by kernel_rfl⟩
instance : PlacesOf Tryd.prog 55 [(0, 1), (1, 1), (2, 1), (3, 1), (4, 1), (5, 1), (6, 1)] [(.slice none 0 0), (.slice none 0 0), (.slice none 0 0), (.slice none 0 0), (.slice none 0 0), (.slice none 0 0), (.slice none 0 0)] := placesOf_mk (Tryd.prog.fieldsOf 55) (.agg #[(.slice none 0 0), (.slice none 0 0), (.slice none 0 0), (.slice none 0 0), (.slice none 0 0), (.slice none 0 0), (.slice none 0 0)]) (fun _ => by kernel_rfl) (by kernel_rfl) (by kernel_rfl) (fun _ => by kernel_rfl)
instance : IsOne Tryd.prog 56 := ⟨fun _ => by kernel_rfl, fun _ => by kernel_rfl⟩
instance : ElOf Tryd.prog 56 1 8 := elOf_mk (by kernel_rfl) (by decide)
instance : ZeroOf Tryd.prog 56 [.nilFunc] := ⟨.nilFunc, fun _ => by kernel_rfl, by kernel_rfl⟩
instance : IsAgg Tryd.prog 57 3 := ⟨fun _ => by kernel_rfl, fun _ => by kernel_rfl⟩
instance : FldAt Tryd.prog 57 0 0 := ⟨fun _ _ _ => by kernel_rfl⟩
instance : FldAt Tryd.prog 57 1 1 := ⟨fun _ _ _ => by kernel_rfl⟩
instance : FldAt Tryd.prog 57 2 2 := ⟨fun _ _ _ => by kernel_rfl⟩
instance : ElOf Tryd.prog 57 3 40 := elOf_mk (by kernel_rfl) (by decide)
instance : ZeroOf Tryd.prog 57 [(.int .i64 0), (.int .i64 0), (.slice none 0 0)] := ⟨(.agg #[(.int .i64 0), (.int .i64 0), (.slice none 0 0)]), fun _ => by kernel_rfl, by kernel_rfl⟩
instance : PlacesOf Tryd.prog 57 [(0, 1), (1, 1), (2, 1)] [(.int .i64 0), (.int .i64 0), (.slice none 0 0)] := placesOf_mk (Tryd.prog.fieldsOf 57) (.agg #[(.int .i64 0), (.int .i64 0), (.slice none 0 0)]) (fun _ => by kernel_rfl) (by kernel_rfl) (by kernel_rfl) (fun _ => by kernel_rfl)
instance : IsAgg Tryd.prog 58 3 := ⟨fun _ => by kernel_rfl, fun _ => by kernel_rfl⟩
instance : FldAt Tryd.prog 58 0 0 := ⟨fun _ _ _ => by kernel_rfl⟩
instance : FldAt Tryd.prog 58 1 1 := ⟨fun _ _ _ => by kernel_rfl⟩
instance : FldAt Tryd.prog 58 2 2 := ⟨fun _ _ _ => by kernel_rfl⟩
instance : ElOf Tryd.prog 58 3 40 := elOf_mk (by kernel_rfl) (by decide)
instance : ZeroOf Tryd.prog 58 [(.int .i64 0), (.int .i64 0), (.slice none 0 0)] := ⟨(.agg #[(.int .i64 0), (.int .i64 0), (.slice none 0 0)]), fun _ => by kernel_rfl, by kernel_rfl⟩
instance : PlacesOf Tryd.prog 58 [(0, 1), (1, 1), (2, 1)] [(.int .i64 0), (.int .i64 0), (.slice none 0 0)] := placesOf_mk (Tryd.prog.fieldsOf 58) (.agg #[(.int .i64 0), (.int .i64 0), (.slice none 0 0)]) (fun _ => by kernel_rfl) (by kernel_rfl) (by kernel_rfl) (fun _ => by kernel_rfl)
instance : IsOne Tryd.prog 59 := ⟨fun _ => by kernel_rfl, fun _ => by kernel_rfl⟩
instance : NotInt Tryd.prog 59 := ⟨.inr ⟨58, by kernel_rfl⟩⟩
instance : SlOf Tryd.prog 59 58 3 := ⟨by kernel_rfl, fun _ => by kernel_rfl⟩
instance : ElOf Tryd.prog 59 1 24 := elOf_mk (by kernel_rfl) (by decide)
instance : ZeroOf Tryd.prog 59 [(.slice none 0 0)] := ⟨(.slice none 0 0), fun _ => by kernel_rfl, by kernel_rfl⟩
instance : IsAgg Tryd.prog 60 6 := ⟨fun _ => by kernel_rfl, fun _ => by kernel_rfl⟩
instance : FldAt Tryd.prog 60 0 0 := ⟨fun _ _ _ => by kernel_rfl⟩
instance : FldAt Tryd.prog 60 1 1 := ⟨fun _ _ _ => by kernel_rfl⟩
instance : FldAt Tryd.prog 60 2 2 := ⟨fun _ _ _ => by kernel_rfl⟩
instance : FldAt Tryd.prog 60 3 3 := ⟨fun _ _ _ => by kernel_rfl⟩
instance : FldAt Tryd.prog 60 4 4 := ⟨fun _ _ _ => by kernel_rfl⟩
instance : FldAt Tryd.prog 60 5 5 := ⟨fun _ _ _ => by kernel_rfl⟩
instance : ElOf Tryd.prog 60 6 72 := elOf_mk (by kernel_rfl) (by decide)
instance : ZeroOf Tryd.prog 60 [(.int .i64 0), (.int .i64 0), (.int .i64 0), (.string ⟨#[]⟩), (.string ⟨#[]⟩), (.string ⟨#[]⟩)] := ⟨(.agg #[(.int .i64 0), (.int .i64 0), (.int .i64 0), (.string ⟨#[]⟩), (.string ⟨#[]⟩), (.string ⟨#[]⟩)]), fun _ => by kernel_rfl, by kernel_rfl⟩
instance : PlacesOf Tryd.prog 60 [(0, 1), (1, 1), (2, 1), (3, 1), (4, 1), (5, 1)] [(.int .i64 0), (.int .i64 0), (.int .i64 0), (.string ⟨#[]⟩), (.string ⟨#[]⟩), (.string ⟨#[]⟩)] := placesOf_mk (Tryd.prog.fieldsOf 60) (.agg #[(.int .i64 0), (.int .i64 0), (.int .i64 0), (.string ⟨#[]⟩), (.string ⟨#[]⟩), (.string ⟨#[]⟩)]) (fun _ => by kernel_rfl) (by kernel_rfl) (by kernel_rfl) (fun _ => by kernel_rfl)
instance : IsAgg Tryd.prog 61 6 := ⟨fun _ => by kernel_rfl, fun _ => by kernel_rfl⟩
instance : FldAt Tryd.prog 61 0 0 := ⟨fun _ _ _ => by kernel_rfl⟩
instance : FldAt Tryd.prog 61 1 1 := ⟨fun _ _ _ => by kernel_rfl⟩
instance : FldAt Tryd.prog 61 2 2 := ⟨fun _ _ _ => by kernel_rfl⟩
instance : FldAt Tryd.prog 61 3 3 := ⟨fun _ _ _ => by kernel_rfl⟩
instance : FldAt Tryd.prog 61 4 4 := ⟨fun _ _ _ => by kernel_rfl⟩
instance : FldAt Tryd.prog 61 5 5 := ⟨fun _ _ _ => by kernel_rfl⟩
set_option maxRecDepth 100000 in
instance : FlatEq Tryd.prog 61 [.int .i64, .int .i64, .int .i64, .str, .str, .str] := ⟨by kernel_rfl, .cons (by kernel_rfl) (of_decide_eq_true (by kernel_rfl)) (fun _ => by kernel_rfl) (by kernel_rfl) (.cons (by kernel_rfl) (of_decide_eq_true (by kernel_rfl)) (fun _ => by kernel_rfl) (by kernel_rfl) (.cons (by kernel_rfl) (of_decide_eq_true (by kernel_rfl)) (fun _ => by kernel_rfl) (by kernel_rfl) (.cons (by kernel_rfl) (of_decide_eq_true (by kernel_rfl)) (fun _ => by kernel_rfl) (by kernel_rfl) (.cons (by kernel_rfl) (of_decide_eq_true (by kernel_rfl)) (fun _ => by kernel_rfl) (by kernel_rfl) (.cons (by kernel_rfl) (of_decide_eq_true (by kernel_rfl)) (fun _ => by kernel_rfl) (by kernel_rfl) (.nil)))))), by kernel_rfl, by kernel_rfl⟩
instance : ElOf Tryd.prog 61 6 72 := elOf_mk (by kernel_rfl) (by decide)
instance : ZeroOf Tryd.prog 61 [(.int .i64 0), (.int .i64 0), (.int .i64 0), (.string ⟨#[]⟩), (.string ⟨#[]⟩), (.string ⟨#[]⟩)] := ⟨(.agg #[(.int .i64 0), (.int .i64 0), (.int .i64 0), (.string ⟨#[]⟩), (.string ⟨#[]⟩), (.string ⟨#[]⟩)]), fun _ => by kernel_rfl, by kernel_rfl⟩
instance : PlacesOf Tryd.prog 61 [(0, 1), (1, 1), (2, 1), (3, 1), (4, 1), (5, 1)] [(.int .i64 0), (.int .i64 0), (.int .i64 0), (.string ⟨#[]⟩), (.string ⟨#[]⟩), (.string ⟨#[]⟩)] := placesOf_mk (Tryd.prog.fieldsOf 61) (.agg #[(.int .i64 0), (.int .i64 0), (.int .i64 0), (.string ⟨#[]⟩), (.string ⟨#[]⟩), (.string ⟨#[]⟩)]) (fun _ => by kernel_rfl) (by kernel_rfl) (by kernel_rfl) (fun _ => by kernel_rfl)
instance : IsOne Tryd.prog 62 := ⟨fun _ => by kernel_rfl, fun _ => by kernel_rfl⟩
instance : NotInt Tryd.prog 62 := ⟨.inr ⟨61, by kernel_rfl⟩⟩
instance : SlOf Tryd.prog 62 61 6 := ⟨by kernel_rfl, fun _ => by kernel_rfl⟩
instance : ElOf Tryd.prog 62 1 24 := elOf_mk (by kernel_rfl) (by decide)
instance : ZeroOf Tryd.prog 62 [(.slice none 0 0)] := ⟨(.slice none 0 0), fun _ => by kernel_rfl, by kernel_rfl⟩
instance : IsOne Tryd.prog 63 := ⟨fun _ => by kernel_rfl, fun _ => by kernel_rfl⟩
instance : ElOf Tryd.prog 63 1 8 := elOf_mk (by kernel_rfl) (by decide)
instance : ZeroOf Tryd.prog 63 [.nilFunc] := ⟨.nilFunc, fun _ => by kernel_rfl, by kernel_rfl⟩
instance : IsOne Tryd.prog 64 := ⟨fun _ => by kernel_rfl, fun _ => by kernel_rfl⟩
instance : ElOf Tryd.prog 64 1 8 := elOf_mk (by kernel_rfl) (by decide)
instance : ZeroOf Tryd.prog 64 [(.map none)] := ⟨(.map none), fun _ => by kernel_rfl, by kernel_rfl⟩
instance : IsOne Tryd.prog 66 := ⟨fun _ => by kernel_rfl, fun _ => by kernel_rfl⟩
instance : ElOf Tryd.prog 66 1 8 := elOf_mk (by kernel_rfl) (by decide)
instance : ZeroOf Tryd.prog 66 [.nilFunc] := ⟨.nilFunc, fun _ => by kernel_rfl, by kernel_rfl⟩
instance : IsOne Tryd.prog 67 := ⟨fun _ => by kernel_rfl, fun _ => by kernel_rfl⟩
instance : ElOf Tryd.prog 67 1 8 := elOf_mk (by kernel_rfl) (by decide)
instance : ZeroOf Tryd.prog 67 [.nilFunc] := ⟨.nilFunc, fun _ => by kernel_rfl, by kernel_rfl⟩
instance : IsOne Tryd.prog 68 := ⟨fun _ => by kernel_rfl, fun _ => by kernel_rfl⟩
instance : NotInt Tryd.prog 68 := ⟨.inr ⟨22, by kernel_rfl⟩⟩
instance : SlOf Tryd.prog 68 22 1 := ⟨by kernel_rfl, fun _ => by kernel_rfl⟩
instance : ElOf Tryd.prog 68 1 24 := elOf_mk (by kernel_rfl) (by decide)
instance : ZeroOf Tryd.prog 68 [(.slice none 0 0)] := ⟨(.slice none 0 0), fun _ => by kernel_rfl, by kernel_rfl⟩
instance : IsOne Tryd.prog 69 := ⟨fun _ => by kernel_rfl, fun _ => by kernel_rfl⟩
instance : ElOf Tryd.prog 69 1 8 := elOf_mk (by kernel_rfl) (by decide)
instance : ZeroOf Tryd.prog 69 [.nilFunc] := ⟨.nilFunc, fun _ => by kernel_rfl, by kernel_rfl⟩
instance : IsOne Tryd.prog 70 := ⟨fun _ => by kernel_rfl, fun _ => by kernel_rfl⟩
instance : NotInt Tryd.prog 70 := ⟨.inr ⟨5, by kernel_rfl⟩⟩
instance : SlOf Tryd.prog 70 5 1 := ⟨by kernel_rfl, fun _ => by kernel_rfl⟩
instance : ElOf Tryd.prog 70 1 24 := elOf_mk (by kernel_rfl) (by decide)
instance : ZeroOf Tryd.prog 70 [(.slice none 0 0)] := ⟨(.slice none 0 0), fun _ => by kernel_rfl, by kernel_rfl⟩
instance : IsOne Tryd.prog 71 := ⟨fun _ => by kernel_rfl, fun _ => by kernel_rfl⟩
instance : ElOf Tryd.prog 71 1 8 := elOf_mk (by kernel_rfl) (by decide)
instance : ZeroOf Tryd.prog 71 [.nilFunc] := ⟨.nilFunc, fun _ => by kernel_rfl, by kernel_rfl⟩
instance : IsOne Tryd.prog 72 := ⟨fun _ => by kernel_rfl, fun _ => by kernel_rfl⟩
instance : ElOf Tryd.prog 72 1 8 := elOf_mk (by kernel_rfl) (by decide)
instance : ZeroOf Tryd.prog 72 [.nilFunc] := ⟨.nilFunc, fun _ => by kernel_rfl, by kernel_rfl⟩
instance : IsOne Tryd.prog 73 := ⟨fun _ => by kernel_rfl, fun _ => by kernel_rfl⟩
instance : ElOf Tryd.prog 73 1 8 := elOf_mk (by kernel_rfl) (by decide)
instance : ZeroOf Tryd.prog 73 [.nilFunc] := ⟨.nilFunc, fun _ => by kernel_rfl, by kernel_rfl⟩
instance : IsOne Tryd.prog 74 := ⟨fun _ => by kernel_rfl, fun _ => by kernel_rfl⟩
instance : ElOf Tryd.prog 74 1 8 := elOf_mk (by kernel_rfl) (by decide)
instance : ZeroOf Tryd.prog 74 [.nilFunc] := ⟨.nilFunc, fun _ => by kernel_rfl, by kernel_rfl⟩
instance : IsOne Tryd.prog 76 := ⟨fun _ => by kernel_rfl, fun _ => by kernel_rfl⟩
instance : ElOf Tryd.prog 76 1 8 := elOf_mk (by kernel_rfl) (by decide)
instance : ZeroOf Tryd.prog 76 [.nilFunc] := ⟨.nilFunc, fun _ => by kernel_rfl, by kernel_rfl⟩
instance : IsOne Tryd.prog 77 := ⟨fun _ => by kernel_rfl, fun _ => by kernel_rfl⟩
instance : ElOf Tryd.prog 77 1 8 := elOf_mk (by kernel_rfl) (by decide)
instance : ZeroOf Tryd.prog 77 [.nilFunc] := ⟨.nilFunc, fun _ => by kernel_rfl, by kernel_rfl⟩
instance : IsOne Tryd.prog 78 := ⟨fun _ => by kernel_rfl, fun _ => by kernel_rfl⟩
instance : ElOf Tryd.prog 78 1 8 := elOf_mk (by kernel_rfl) (by decide)
instance : ZeroOf Tryd.prog 78 [.nilFunc] := ⟨.nilFunc, fun _ => by kernel_rfl, by kernel_rfl⟩
instance : IsOne Tryd.prog 79 := ⟨fun _ => by kernel_rfl, fun _ => by kernel_rfl⟩
instance : ElOf Tryd.prog 79 1 8 := elOf_mk (by kernel_rfl) (by decide)
instance : ZeroOf Tryd.prog 79 [.nilFunc] := ⟨.nilFunc, fun _ => by kernel_rfl, by kernel_rfl⟩
instance : IsOne Tryd.prog 80 := ⟨fun _ => by kernel_rfl, fun _ => by kernel_rfl⟩
instance : ElOf Tryd.prog 80 1 8 := elOf_mk (by kernel_rfl) (by decide)
instance : ZeroOf Tryd.prog 80 [.nilFunc] := ⟨.nilFunc, fun _ => by kernel_rfl, by kernel_rfl⟩
instance : IsOne Tryd.prog 81 := ⟨fun _ => by kernel_rfl, fun _ => by kernel_rfl⟩
instance : IntT Tryd.prog 81 .u64 := ⟨by kernel_rfl⟩
instance : ElOf Tryd.prog 81 1 8 := elOf_mk (by kernel_rfl) (by decide)
instance : ZeroOf Tryd.prog 81 [(.int .u64 0)] := ⟨(.int .u64 0), fun _ => by kernel_rfl, by kernel_rfl⟩
instance : IsOne Tryd.prog 82 := ⟨fun _ => by kernel_rfl, fun _ => by kernel_rfl⟩
instance : ElOf Tryd.prog 82 1 8 := elOf_mk (by kernel_rfl) (by decide)
instance : ZeroOf Tryd.prog 82 [.nilFunc] := ⟨.nilFunc, fun _ => by kernel_rfl, by kernel_rfl⟩
instance : IsOne Tryd.prog 83 := ⟨fun _ => by kernel_rfl, fun _ => by kernel_rfl⟩
instance : ElOf Tryd.prog 83 1 8 := elOf_mk (by kernel_rfl) (by decide)
instance : ZeroOf Tryd.prog 83 [.nilFunc] := ⟨.nilFunc, fun _ => by kernel_rfl, by kernel_rfl⟩
instance : IsOne Tryd.prog 84 := ⟨fun _ => by kernel_rfl, fun _ => by kernel_rfl⟩
instance : ElOf Tryd.prog 84 1 8 := elOf_mk (by kernel_rfl) (by decide)
instance : ZeroOf Tryd.prog 84 [.nilFunc] := ⟨.nilFunc, fun _ => by kernel_rfl, by kernel_rfl⟩
instance : IsOne Tryd.prog 85 := ⟨fun _ => by kernel_rfl, fun _ => by kernel_rfl⟩
instance : ElOf Tryd.prog 85 1 8 := elOf_mk (by kernel_rfl) (by decide)
instance : ZeroOf Tryd.prog 85 [.nilFunc] := ⟨.nilFunc, fun _ => by kernel_rfl, by kernel_rfl⟩
instance : IsOne Tryd.prog 86 := ⟨fun _ => by kernel_rfl, fun _ => by kernel_rfl⟩
instance : ElOf Tryd.prog 86 1 8 := elOf_mk (by kernel_rfl) (by decide)
instance : ZeroOf Tryd.prog 86 [.nilFunc] := ⟨.nilFunc, fun _ => by kernel_rfl, by kernel_rfl⟩
instance : IsOne Tryd.prog 87 := ⟨fun _ => by kernel_rfl, fun _ => by kernel_rfl⟩
instance : ElOf Tryd.prog 87 1 8 := elOf_mk (by kernel_rfl) (by decide)
instance : ZeroOf Tryd.prog 87 [.nilFunc] := ⟨.nilFunc, fun _ => by kernel_rfl, by kernel_rfl⟩
instance : IsOne Tryd.prog 88 := ⟨fun _ => by kernel_rfl, fun _ => by kernel_rfl⟩
instance : ElOf Tryd.prog 88 1 8 := elOf_mk (by kernel_rfl) (by decide)
instance : ZeroOf Tryd.prog 88 [.nilFunc] := ⟨.nilFunc, fun _ => by kernel_rfl, by kernel_rfl⟩
instance : IsOne Tryd.prog 89 := ⟨fun _ => by kernel_rfl, fun _ => by kernel_rfl⟩
instance : ElOf Tryd.prog 89 1 8 := elOf_mk (by kernel_rfl) (by decide)
instance : ZeroOf Tryd.prog 89 [.nilFunc] := ⟨.nilFunc, fun _ => by kernel_rfl, by kernel_rfl⟩
instance : IsOne Tryd.prog 90 := ⟨fun _ => by kernel_rfl, fun _ => by kernel_rfl⟩
instance : ElOf Tryd.prog 90 1 8 := elOf_mk (by kernel_rfl) (by decide)
instance : ZeroOf Tryd.prog 90 [.nilFunc] := ⟨.nilFunc, fun _ => by kernel_rfl, by kernel_rfl⟩
instance : IsOne Tryd.prog 91 := ⟨fun _ => by kernel_rfl, fun _ => by kernel_rfl⟩
instance : ElOf Tryd.prog 91 1 8 := elOf_mk (by kernel_rfl) (by decide)
instance : ZeroOf Tryd.prog 91 [.nilFunc] := ⟨.nilFunc, fun _ => by kernel_rfl, by kernel_rfl⟩
instance : IsOne Tryd.prog 92 := ⟨fun _ => by kernel_rfl, fun _ => by kernel_rfl⟩
instance : IntT Tryd.prog 92 .i64 := ⟨by kernel_rfl⟩
instance : ElOf Tryd.prog 92 1 8 := elOf_mk (by kernel_rfl) (by decide)
instance : ZeroOf Tryd.prog 92 [(.int .i64 0)] := ⟨(.int .i64 0), fun _ => by kernel_rfl, by kernel_rfl⟩
instance : IsOne Tryd.prog 94 := ⟨fun _ => by kernel_rfl, fun _ => by kernel_rfl⟩
instance : ElOf Tryd.prog 94 1 8 := elOf_mk (by kernel_rfl) (by decide)
instance : ZeroOf Tryd.prog 94 [.nilFunc] := ⟨.nilFunc, fun _ => by kernel_rfl, by kernel_rfl⟩
instance : IsOne Tryd.prog 95 := ⟨fun _ => by kernel_rfl, fun _ => by kernel_rfl⟩
instance : ElOf Tryd.prog 95 1 8 := elOf_mk (by kernel_rfl) (by decide)
instance : ZeroOf Tryd.prog 95 [.nilFunc] := ⟨.nilFunc, fun _ => by kernel_rfl, by kernel_rfl⟩
instance : IsOne Tryd.prog 96 := ⟨fun _ => by kernel_rfl, fun _ => by kernel_rfl⟩
instance : ElOf Tryd.prog 96 1 8 := elOf_mk (by kernel_rfl) (by decide)
instance : ZeroOf Tryd.prog 96 [.nilFunc] := ⟨.nilFunc, fun _ => by kernel_rfl, by kernel_rfl⟩
instance : IsOne Tryd.prog 97 := ⟨fun _ => by kernel_rfl, fun _ => by kernel_rfl⟩
instance : ElOf Tryd.prog 97 1 8 := elOf_mk (by kernel_rfl) (by decide)
instance : ZeroOf Tryd.prog 97 [.nilFunc] := ⟨.nilFunc, fun _ => by kernel_rfl, by kernel_rfl⟩
instance : IsOne Tryd.prog 98 := ⟨fun _ => by kernel_rfl, fun _ => by kernel_rfl⟩
instance : ElOf Tryd.prog 98 1 8 := elOf_mk (by kernel_rfl) (by decide)
instance : ZeroOf Tryd.prog 98 [.nilFunc] := ⟨.nilFunc, fun _ => by kernel_rfl, by kernel_rfl⟩
instance : IsOne Tryd.prog 99 := ⟨fun _ => by kernel_rfl, fun _ => by kernel_rfl⟩
instance : IntT Tryd.prog 99 .u32 := ⟨by kernel_rfl⟩
instance : ElOf Tryd.prog 99 1 4 := elOf_mk (by kernel_rfl) (by decide)
instance : ZeroOf Tryd.prog 99 [(.int .u32 0)] := ⟨(.int .u32 0), fun _ => by kernel_rfl, by kernel_rfl⟩
instance : IsOne Tryd.prog 100 := ⟨fun _ => by kernel_rfl, fun _ => by kernel_rfl⟩
instance : ElOf Tryd.prog 100 1 8 := elOf_mk (by kernel_rfl) (by decide)
instance : ZeroOf Tryd.prog 100 [.nilFunc] := ⟨.nilFunc, fun _ => by kernel_rfl, by kernel_rfl⟩
instance : IsOne Tryd.prog 101 := ⟨fun _ => by kernel_rfl, fun _ => by kernel_rfl⟩
instance : IntT Tryd.prog 101 .u64 := ⟨by kernel_rfl⟩
instance : ElOf Tryd.prog 101 1 8 := elOf_mk (by kernel_rfl) (by decide)
instance : ZeroOf Tryd.prog 101 [(.int .u64 0)] := ⟨(.int .u64 0), fun _ => by kernel_rfl, by kernel_rfl⟩
instance : IsOne Tryd.prog 102 := ⟨fun _ => by kernel_rfl, fun _ => by kernel_rfl⟩
instance : ElOf Tryd.prog 102 1 8 := elOf_mk (by kernel_rfl) (by decide)
instance : ZeroOf Tryd.prog 102 [.nilFunc] := ⟨.nilFunc, fun _ => by kernel_rfl, by kernel_rfl⟩
instance : IsOne Tryd.prog 103 := ⟨fun _ => by kernel_rfl, fun _ => by kernel_rfl⟩
instance : ElOf Tryd.prog 103 1 8 := elOf_mk (by kernel_rfl) (by decide)
instance : ZeroOf Tryd.prog 103 [.nilFunc] := ⟨.nilFunc, fun _ => by kernel_rfl, by kernel_rfl⟩
instance : IsOne Tryd.prog 104 := ⟨fun _ => by kernel_rfl, fun _ => by kernel_rfl⟩
instance : ElOf Tryd.prog 104 1 8 := elOf_mk (by kernel_rfl) (by decide)
instance : ZeroOf Tryd.prog 104 [.nilFunc] := ⟨.nilFunc, fun _ => by kernel_rfl, by kernel_rfl⟩
instance : IsOne Tryd.prog 105 := ⟨fun _ => by kernel_rfl, fun _ => by kernel_rfl⟩
instance : ElOf Tryd.prog 105 1 8 := elOf_mk (by kernel_rfl) (by decide)
instance : ZeroOf Tryd.prog 105 [.nilFunc] := ⟨.nilFunc, fun _ => by kernel_rfl, by kernel_rfl⟩
instance : IsOne Tryd.prog 106 := ⟨fun _ => by kernel_rfl, fun _ => by kernel_rfl⟩
instance : ElOf Tryd.prog 106 1 8 := elOf_mk (by kernel_rfl) (by decide)
instance : ZeroOf Tryd.prog 106 [.nilFunc] := ⟨.nilFunc, fun _ => by kernel_rfl, by kernel_rfl⟩
instance : IsOne Tryd.prog 107 := ⟨fun _ => by kernel_rfl, fun _ => by kernel_rfl⟩
instance : ElOf Tryd.prog 107 1 8 := elOf_mk (by kernel_rfl) (by decide)
instance : ZeroOf Tryd.prog 107 [.nilFunc] := ⟨.nilFunc, fun _ => by kernel_rfl, by kernel_rfl⟩
instance : IsOne Tryd.prog 108 := ⟨fun _ => by kernel_rfl, fun _ => by kernel_rfl⟩
instance : ElOf Tryd.prog 108 1 8 := elOf_mk (by kernel_rfl) (by decide)
instance : ZeroOf Tryd.prog 108 [.nilFunc] := ⟨.nilFunc, fun _ => by kernel_rfl, by kernel_rfl⟩
instance : IsOne Tryd.prog 109 := ⟨fun _ => by kernel_rfl, fun _ => by kernel_rfl⟩
instance : ElOf Tryd.prog 109 1 8 := elOf_mk (by kernel_rfl) (by decide)
instance : ZeroOf Tryd.prog 109 [.nilFunc] := ⟨.nilFunc, fun _ => by kernel_rfl, by kernel_rfl⟩
instance : IsAgg Tryd.prog 110 7 := ⟨fun _ => by kernel_rfl, fun _ => by kernel_rfl⟩
instance : FldAt Tryd.prog 110 0 0 := ⟨fun _ _ _ => by kernel_rfl⟩
instance : FldAt Tryd.prog 110 1 1 := ⟨fun _ _ _ => by kernel_rfl⟩
instance : FldAt Tryd.prog 110 2 2 := ⟨fun _ _ _ => by kernel_rfl⟩
instance : FldAt Tryd.prog 110 3 3 := ⟨fun _ _ _ => by kernel_rfl⟩
instance : FldAt Tryd.prog 110 4 4 := ⟨fun _ _ _ => by kernel_rfl⟩
instance : FldAt Tryd.prog 110 5 5 := ⟨fun _ _ _ => by kernel_rfl⟩
instance : FldAt Tryd.prog 110 6 6 := ⟨fun _ _ _ => by kernel_rfl⟩
instance : ElOf Tryd.prog 110 7 56 := elOf_mk (by kernel_rfl) (by decide)
instance : ZeroOf Tryd.prog 110 [(.int .i64 0), (.int .i64 0), (.string ⟨#[]⟩), (.string ⟨#[]⟩), (.bool false), (.bool false), (.bool false)] := ⟨(.agg #[(.int .i64 0), (.int .i64 0), (.string ⟨#[]⟩), (.string ⟨#[]⟩), (.bool false), (.bool false), (.bool false)]), fun _ => by kernel_rfl, by kernel_rfl⟩
instance : PlacesOf Tryd.prog 110 [(0, 1), (1, 1), (2, 1), (3, 1), (4, 1), (5, 1), (6, 1)] [(.int .i64 0), (.int .i64 0), (.string ⟨#[]⟩), (.string ⟨#[]⟩), (.bool false), (.bool false), (.bool false)] := placesOf_mk (Tryd.prog.fieldsOf 110) (.agg #[(.int .i64 0), (.int .i64 0), (.string ⟨#[]⟩), (.string ⟨#[]⟩), (.bool false), (.bool false), (.bool false)]) (fun _ => by kernel_rfl) (by kernel_rfl) (by kernel_rfl) (fun _ => by kernel_rfl)
instance : IsAgg Tryd.prog 111 7 := ⟨fun _ => by kernel_rfl, fun _ => by kernel_rfl⟩
instance : FldAt Tryd.prog 111 0 0 := ⟨fun _ _ _ => by kernel_rfl⟩
instance : FldAt Tryd.prog 111 1 1 := ⟨fun _ _ _ => by kernel_rfl⟩
instance : FldAt Tryd.prog 111 2 2 := ⟨fun _ _ _ => by kernel_rfl⟩
instance : FldAt Tryd.prog 111 3 3 := ⟨fun _ _ _ => by kernel_rfl⟩
instance : FldAt Tryd.prog 111 4 4 := ⟨fun _ _ _ => by kernel_rfl⟩
instance : FldAt Tryd.prog 111 5 5 := ⟨fun _ _ _ => by kernel_rfl⟩
instance : FldAt Tryd.prog 111 6 6 := ⟨fun _ _ _ => by kernel_rfl⟩
set_option maxRecDepth 100000 in
instance : FlatEq Tryd.prog 111 [.int .i64, .int .i64, .str, .str, .bool, .bool, .bool] := ⟨by kernel_rfl, .cons (by kernel_rfl) (of_decide_eq_true (by kernel_rfl)) (fun _ => by kernel_rfl) (by kernel_rfl) (.cons (by kernel_rfl) (of_decide_eq_true (by kernel_rfl)) (fun _ => by kernel_rfl) (by kernel_rfl) (.cons (by kernel_rfl) (of_decide_eq_true (by kernel_rfl)) (fun _ => by kernel_rfl) (by kernel_rfl) (.cons (by kernel_rfl) (of_decide_eq_true (by kernel_rfl)) (fun _ => by kernel_rfl) (by kernel_rfl) (.cons (by kernel_rfl) (of_decide_eq_true (by kernel_rfl)) (fun _ => by kernel_rfl) (by kernel_rfl) (.cons (by kernel_rfl) (of_decide_eq_true (by kernel_rfl)) (fun _ => by kernel_rfl) (by kernel_rfl) (.cons (by kernel_rfl) (of_decide_eq_true (by kernel_rfl)) (fun _ => by kernel_rfl) (by kernel_rfl) (.nil))))))), by kernel_rfl, by kernel_rfl⟩
instance : ElOf Tryd.prog 111 7 56 := elOf_mk (by kernel_rfl) (by decide)
instance : ZeroOf Tryd.prog 111 [(.int .i64 0), (.int .i64 0), (.string ⟨#[]⟩), (.string ⟨#[]⟩), (.bool false), (.bool false), (.bool false)] := ⟨(.agg #[(.int .i64 0), (.int .i64 0), (.string ⟨#[]⟩), (.string ⟨#[]⟩), (.bool false), (.bool false), (.bool false)]), fun _ => by kernel_rfl, by kernel_rfl⟩
instance : PlacesOf Tryd.prog 111 [(0, 1), (1, 1), (2, 1), (3, 1), (4, 1), (5, 1), (6, 1)] [(.int .i64 0), (.int .i64 0), (.string ⟨#[]⟩), (.string ⟨#[]⟩), (.bool false), (.bool false), (.bool false)] := placesOf_mk (Tryd.prog.fieldsOf 111) (.agg #[(.int .i64 0), (.int .i64 0), (.string ⟨#[]⟩), (.string ⟨#[]⟩), (.bool false), (.bool false), (.bool false)]) (fun _ => by kernel_rfl) (by kernel_rfl) (by kernel_rfl) (fun _ => by kernel_rfl)
instance : IsOne Tryd.prog 112 := ⟨fun _ => by kernel_rfl, fun _ => by kernel_rfl⟩
instance : ElOf Tryd.prog 112 1 8 := elOf_mk (by kernel_rfl) (by decide)
instance : ZeroOf Tryd.prog 112 [.nilFunc] := ⟨.nilFunc, fun _ => by kernel_rfl, by kernel_rfl⟩
instance : IsOne Tryd.prog 113 := ⟨fun _ => by kernel_rfl, fun _ => by kernel_rfl⟩
instance : ElOf Tryd.prog 113 1 8 := elOf_mk (by kernel_rfl) (by decide)
instance : ZeroOf Tryd.prog 113 [.nilFunc] := ⟨.nilFunc, fun _ => by kernel_rfl, by kernel_rfl⟩
instance : IsAgg Tryd.prog 114 2 := ⟨fun _ => by kernel_rfl, fun _ => by kernel_rfl⟩
instance : FldAt Tryd.prog 114 0 0 := ⟨fun _ _ _ => by kernel_rfl⟩
instance : FldAt Tryd.prog 114 1 1 := ⟨fun _ _ _ => by kernel_rfl⟩
instance : ElOf Tryd.prog 114 2 16 := elOf_mk (by kernel_rfl) (by decide)
instance : ZeroOf Tryd.prog 114 [(.int .i64 0), (.int .i64 0)] := ⟨(.agg #[(.int .i64 0), (.int .i64 0)]), fun _ => by kernel_rfl, by kernel_rfl⟩
instance : PlacesOf Tryd.prog 114 [(0, 1), (1, 1)] [(.int .i64 0), (.int .i64 0)] := placesOf_mk (Tryd.prog.fieldsOf 114) (.agg #[(.int .i64 0), (.int .i64 0)]) (fun _ => by kernel_rfl) (by kernel_rfl) (by kernel_rfl) (fun _ => by kernel_rfl)
instance : IsAgg Tryd.prog 115 2 := ⟨fun _ => by kernel_rfl, fun _ => by kernel_rfl⟩
instance : FldAt Tryd.prog 115 0 0 := ⟨fun _ _ _ => by kernel_rfl⟩
instance : FldAt Tryd.prog 115 1 1 := ⟨fun _ _ _ => by kernel_rfl⟩
set_option maxRecDepth 100000 in
instance : FlatEq Tryd.prog 115 [.int .i64, .int .i64] := ⟨by kernel_rfl, .cons (by kernel_rfl) (of_decide_eq_true (by kernel_rfl)) (fun _ => by kernel_rfl) (by kernel_rfl) (.cons (by kernel_rfl) (of_decide_eq_true (by kernel_rfl)) (fun _ => by kernel_rfl) (by kernel_rfl) (.nil)), by kernel_rfl, by kernel_rfl⟩
instance : ElOf Tryd.prog 115 2 16 := elOf_mk (by kernel_rfl) (by decide)
instance : ZeroOf Tryd.prog 115 [(.int .i64 0), (.int .i64 0)] := ⟨(.agg #[(.int .i64 0), (.int .i64 0)]), fun _ => by kernel_rfl, by kernel_rfl⟩
instance : PlacesOf Tryd.prog 115 [(0, 1), (1, 1)] [(.int .i64 0), (.int .i64 0)] := placesOf_mk (Tryd.prog.fieldsOf 115) (.agg #[(.int .i64 0), (.int .i64 0)]) (fun _ => by kernel_rfl) (by kernel_rfl) (by kernel_rfl) (fun _ => by kernel_rfl)
instance : IsAgg Tryd.prog 116 4 := ⟨fun _ => by kernel_rfl, fun _ => by kernel_rfl⟩
instance : FldAt Tryd.prog 116 0 0 := ⟨fun _ _ _ => by kernel_rfl⟩
instance : FldAt Tryd.prog 116 1 1 := ⟨fun _ _ _ => by kernel_rfl⟩
instance : FldAt Tryd.prog 116 2 2 := ⟨fun _ _ _ => by kernel_rfl⟩
instance : FldAt Tryd.prog 116 3 3 := ⟨fun _ _ _ => by kernel_rfl⟩
instance : ElOf Tryd.prog 116 4 56 := elOf_mk (by kernel_rfl) (by decide)
instance : ZeroOf Tryd.prog 116 [(.string ⟨#[]⟩), (.int .i64 0), (.int .i64 0), (.slice none 0 0)] := ⟨(.agg #[(.string ⟨#[]⟩), (.int .i64 0), (.int .i64 0), (.slice none 0 0)]), fun _ => by kernel_rfl, by kernel_rfl⟩
instance : PlacesOf Tryd.prog 116 [(0, 1), (1, 1), (2, 1), (3, 1)] [(.string ⟨#[]⟩), (.int .i64 0), (.int .i64 0), (.slice none 0 0)] := placesOf_mk (Tryd.prog.fieldsOf 116) (.agg #[(.string ⟨#[]⟩), (.int .i64 0), (.int .i64 0), (.slice none 0 0)]) (fun _ => by kernel_rfl) (by kernel_rfl) (by kernel_rfl) (fun _ => by kernel_rfl)
instance : IsAgg Tryd.prog 117 4 := ⟨fun _ => by kernel_rfl, fun _ => by kernel_rfl⟩
instance : FldAt Tryd.prog 117 0 0 := ⟨fun _ _ _ => by kernel_rfl⟩
instance : FldAt Tryd.prog 117 1 1 := ⟨fun _ _ _ => by kernel_rfl⟩
instance : FldAt Tryd.prog 117 2 2 := ⟨fun _ _ _ => by kernel_rfl⟩
instance : FldAt Tryd.prog 117 3 3 := ⟨fun _ _ _ => by kernel_rfl⟩
instance : ElOf Tryd.prog 117 4 56 := elOf_mk (by kernel_rfl) (by decide)
instance : ZeroOf Tryd.prog 117 [(.string ⟨#[]⟩), (.int .i64 0), (.int .i64 0), (.slice none 0 0)] := ⟨(.agg #[(.string ⟨#[]⟩), (.int .i64 0), (.int .i64 0), (.slice none 0 0)]), fun _ => by kernel_rfl, by kernel_rfl⟩
instance : PlacesOf Tryd.prog 117 [(0, 1), (1, 1), (2, 1), (3, 1)] [(.string ⟨#[]⟩), (.int .i64 0), (.int .i64 0), (.slice none 0 0)] := placesOf_mk (Tryd.prog.fieldsOf 117) (.agg #[(.string ⟨#[]⟩), (.int .i64 0), (.int .i64 0), (.slice none 0 0)]) (fun _ => by kernel_rfl) (by kernel_rfl) (by kernel_rfl) (fun _ => by kernel_rfl)
instance : IsOne Tryd.prog 118 := ⟨fun _ => by kernel_rfl, fun _ => by kernel_rfl⟩
instance : ElOf Tryd.prog 118 1 8 := elOf_mk (by kernel_rfl) (by decide)
instance : ZeroOf Tryd.prog 118 [.nilFunc] := ⟨.nilFunc, fun _ => by kernel_rfl, by kernel_rfl⟩
instance : IsOne Tryd.prog 119 := ⟨fun _ => by kernel_rfl, fun _ => by kernel_rfl⟩
instance : IntT Tryd.prog 119 .u64 := ⟨by kernel_rfl⟩
instance : ElOf Tryd.prog 119 1 8 := elOf_mk (by kernel_rfl) (by decide)
instance : ZeroOf Tryd.prog 119 [(.int .u64 0)] := ⟨(.int .u64 0), fun _ => by kernel_rfl, by kernel_rfl⟩
instance : IsOne Tryd.prog 120 := ⟨fun _ => by kernel_rfl, fun _ => by kernel_rfl⟩
instance : ElOf Tryd.prog 120 1 8 := elOf_mk (by kernel_rfl) (by decide)
instance : ZeroOf Tryd.prog 120 [.nilFunc] := ⟨.nilFunc, fun _ => by kernel_rfl, by kernel_rfl⟩
instance : IsOne Tryd.prog 121 := ⟨fun _ => by kernel_rfl, fun _ => by kernel_rfl⟩
instance : ElOf Tryd.prog 121 1 8 := elOf_mk (by kernel_rfl) (by decide)
instance : ZeroOf Tryd.prog 121 [.nilFunc] := ⟨.nilFunc, fun _ => by kernel_rfl, by kernel_rfl⟩
instance : IsOne Tryd.prog 122 := ⟨fun _ => by kernel_rfl, fun _ => by kernel_rfl⟩
instance : ElOf Tryd.prog 122 1 8 := elOf_mk (by kernel_rfl) (by decide)
instance : ZeroOf Tryd.prog 122 [.nilFunc] := ⟨.nilFunc, fun _ => by kernel_rfl, by kernel_rfl⟩
instance : IsOne Tryd.prog 123 := ⟨fun _ => by kernel_rfl, fun _ => by kernel_rfl⟩
instance : ElOf Tryd.prog 123 1 8 := elOf_mk (by kernel_rfl) (by decide)
instance : ZeroOf Tryd.prog 123 [(.pointer none)] := ⟨(.pointer none), fun _ => by kernel_rfl, by kernel_rfl⟩
instance : IsOne Tryd.prog 124 := ⟨fun _ => by kernel_rfl, fun _ => by kernel_rfl⟩
instance : ElOf Tryd.prog 124 1 8 := elOf_mk (by kernel_rfl) (by decide)
instance : ZeroOf Tryd.prog 124 [.nilFunc] := ⟨.nilFunc, fun _ => by kernel_rfl, by kernel_rfl⟩
instance : IsAgg Tryd.prog 125 24 := ⟨fun _ => by kernel_rfl, fun _ => by kernel_rfl⟩
instance : ElOf Tryd.prog 125 24 24 := elOf_mk (by kernel_rfl) (by decide)
instance : ZeroOf Tryd.prog 125 [(.int .u8 0), (.int .u8 0), (.int .u8 0), (.int .u8 0), (.int .u8 0), (.int .u8 0), (.int .u8 0), (.int .u8 0), (.int .u8 0), (.int .u8 0), (.int .u8 0), (.int .u8 0), (.int .u8 0), (.int .u8 0), (.int .u8 0), (.int .u8 0), (.int .u8 0), (.int .u8 0), (.int .u8 0), (.int .u8 0), (.int .u8 0), (.int .u8 0), (.int .u8 0), (.int .u8 0)] := ⟨(.agg #[(.int .u8 0), (.int .u8 0), (.int .u8 0), (.int .u8 0), (.int .u8 0), (.int .u8 0), (.int .u8 0), (.int .u8 0), (.int .u8 0), (.int .u8 0), (.int .u8 0), (.int .u8 0), (.int .u8 0), (.int .u8 0), (.int .u8 0), (.int .u8 0), (.int .u8 0), (.int .u8 0), (.int .u8 0), (.int .u8 0), (.int .u8 0), (.int .u8 0), (.int .u8 0), (.int .u8 0)]), fun _ => by kernel_rfl, by kernel_rfl⟩
instance : IsOne Tryd.prog 126 := ⟨fun _ => by kernel_rfl, fun _ => by kernel_rfl⟩
instance : ElOf Tryd.prog 126 1 8 := elOf_mk (by kernel_rfl) (by decide)
instance : ZeroOf Tryd.prog 126 [.nilFunc] := ⟨.nilFunc, fun _ => by kernel_rfl, by kernel_rfl⟩
instance : IsOne Tryd.prog 128 := ⟨fun _ => by kernel_rfl, fun _ => by kernel_rfl⟩
instance : ElOf Tryd.prog 128 1 8 := elOf_mk (by kernel_rfl) (by decide)
instance : ZeroOf Tryd.prog 128 [.nilFunc] := ⟨.nilFunc, fun _ => by kernel_rfl, by kernel_rfl⟩
instance : IsOne Tryd.prog 129 := ⟨fun _ => by kernel_rfl, fun _ => by kernel_rfl⟩
instance : ElOf Tryd.prog 129 1 8 := elOf_mk (by kernel_rfl) (by decide)
instance : ZeroOf Tryd.prog 129 [.nilFunc] := ⟨.nilFunc, fun _ => by kernel_rfl, by kernel_rfl⟩
instance : IsOne Tryd.prog 130 := ⟨fun _ => by kernel_rfl, fun _ => by kernel_rfl⟩
instance : ElOf Tryd.prog 130 1 8 := elOf_mk (by kernel_rfl) (by decide)
instance : ZeroOf Tryd.prog 130 [.nilFunc] := ⟨.nilFunc, fun _ => by kernel_rfl, by kernel_rfl⟩
instance : IsOne Tryd.prog 131 := ⟨fun _ => by kernel_rfl, fun _ => by kernel_rfl⟩
instance : ElOf Tryd.prog 131 1 8 := elOf_mk (by kernel_rfl) (by decide)
instance : ZeroOf Tryd.prog 131 [.nilFunc] := ⟨.nilFunc, fun _ => by kernel_rfl, by kernel_rfl⟩
instance : IsOne Tryd.prog 132 := ⟨fun _ => by kernel_rfl, fun _ => by kernel_rfl⟩
instance : ElOf Tryd.prog 132 1 8 := elOf_mk (by kernel_rfl) (by decide)
instance : ZeroOf Tryd.prog 132 [.nilFunc] := ⟨.nilFunc, fun _ => by kernel_rfl, by kernel_rfl⟩
instance : IsAgg Tryd.prog 133 2 := ⟨fun _ => by kernel_rfl, fun _ => by kernel_rfl⟩
instance : FldAt Tryd.prog 133 0 0 := ⟨fun _ _ _ => by kernel_rfl⟩
instance : FldAt Tryd.prog 133 1 1 := ⟨fun _ _ _ => by kernel_rfl⟩
instance : ElOf Tryd.prog 133 2 32 := elOf_mk (by kernel_rfl) (by decide)
instance : ZeroOf Tryd.prog 133 [(.string ⟨#[]⟩), (.string ⟨#[]⟩)] := ⟨(.agg #[(.string ⟨#[]⟩), (.string ⟨#[]⟩)]), fun _ => by kernel_rfl, by kernel_rfl⟩
instance : PlacesOf Tryd.prog 133 [(0, 1), (1, 1)] [(.string ⟨#[]⟩), (.string ⟨#[]⟩)] := placesOf_mk (Tryd.prog.fieldsOf 133) (.agg #[(.string ⟨#[]⟩), (.string ⟨#[]⟩)]) (fun _ => by kernel_rfl) (by kernel_rfl) (by kernel_rfl) (fun _ => by kernel_rfl)
instance : IsAgg Tryd.prog 134 2 := ⟨fun _ => by kernel_rfl, fun _ => by kernel_rfl⟩
instance : FldAt Tryd.prog 134 0 0 := ⟨fun _ _ _ => by kernel_rfl⟩
instance : FldAt Tryd.prog 134 1 1 := ⟨fun _ _ _ => by kernel_rfl⟩
set_option maxRecDepth 100000 in
instance : FlatEq Tryd.prog 134 [.str, .str] := ⟨by kernel_rfl, .cons (by kernel_rfl) (of_decide_eq_true (by kernel_rfl)) (fun _ => by kernel_rfl) (by kernel_rfl) (.cons (by kernel_rfl) (of_decide_eq_true (by kernel_rfl)) (fun _ => by kernel_rfl) (by kernel_rfl) (.nil)), by kernel_rfl, by kernel_rfl⟩
instance : ElOf Tryd.prog 134 2 32 := elOf_mk (by kernel_rfl) (by decide)
instance : ZeroOf Tryd.prog 134 [(.string ⟨#[]⟩), (.string ⟨#[]⟩)] := ⟨(.agg #[(.string ⟨#[]⟩), (.string ⟨#[]⟩)]), fun _ => by kernel_rfl, by kernel_rfl⟩
instance : PlacesOf Tryd.prog 134 [(0, 1), (1, 1)] [(.string ⟨#[]⟩), (.string ⟨#[]⟩)] := placesOf_mk (Tryd.prog.fieldsOf 134) (.agg #[(.string ⟨#[]⟩), (.string ⟨#[]⟩)]) (fun _ => by kernel_rfl) (by kernel_rfl) (by kernel_rfl) (fun _ => by kernel_rfl)
instance : IsOne Tryd.prog 135 := ⟨fun _ => by kernel_rfl, fun _ => by kernel_rfl⟩
instance : ElOf Tryd.prog 135 1 8 := elOf_mk (by kernel_rfl) (by decide)
instance : ZeroOf Tryd.prog 135 [.nilFunc] := ⟨.nilFunc, fun _ => by kernel_rfl, by kernel_rfl⟩
instance : IsOne Tryd.prog 136 := ⟨fun _ => by kernel_rfl, fun _ => by kernel_rfl⟩
instance : ElOf Tryd.prog 136 1 8 := elOf_mk (by kernel_rfl) (by decide)
instance : ZeroOf Tryd.prog 136 [.nilFunc] := ⟨.nilFunc, fun _ => by kernel_rfl, by kernel_rfl⟩
instance : IsOne Tryd.prog 137 := ⟨fun _ => by kernel_rfl, fun _ => by kernel_rfl⟩
instance : ElOf Tryd.prog 137 1 8 := elOf_mk (by kernel_rfl) (by decide)
instance : ZeroOf Tryd.prog 137 [.nilFunc] := ⟨.nilFunc, fun _ => by kernel_rfl, by kernel_rfl⟩
instance : IsOne Tryd.prog 138 := ⟨fun _ => by kernel_rfl, fun _ => by kernel_rfl⟩
instance : ElOf Tryd.prog 138 1 8 := elOf_mk (by kernel_rfl) (by decide)
instance : ZeroOf Tryd.prog 138 [.nilFunc] := ⟨.nilFunc, fun _ => by kernel_rfl, by kernel_rfl⟩
instance : IsOne Tryd.prog 139 := ⟨fun _ => by kernel_rfl, fun _ => by kernel_rfl⟩
instance : ElOf Tryd.prog 139 1 8 := elOf_mk (by kernel_rfl) (by decide)
instance : ZeroOf Tryd.prog 139 [.nilFunc] := ⟨.nilFunc, fun _ => by kernel_rfl, by kernel_rfl⟩
instance : IsOne Tryd.prog 140 := ⟨fun _ => by kernel_rfl, fun _ => by kernel_rfl⟩
instance : ElOf Tryd.prog 140 1 8 := elOf_mk (by kernel_rfl) (by decide)
instance : ZeroOf Tryd.prog 140 [(.pointer none)] := ⟨(.pointer none), fun _ => by kernel_rfl, by kernel_rfl⟩
instance : IsOne Tryd.prog 142 := ⟨fun _ => by kernel_rfl, fun _ => by kernel_rfl⟩
instance : ElOf Tryd.prog 142 1 8 := elOf_mk (by kernel_rfl) (by decide)
instance : ZeroOf Tryd.prog 142 [.nilFunc] := ⟨.nilFunc, fun _ => by kernel_rfl, by kernel_rfl⟩
instance : IsOne Tryd.prog 143 := ⟨fun _ => by kernel_rfl, fun _ => by kernel_rfl⟩
instance : ElOf Tryd.prog 143 1 8 := elOf_mk (by kernel_rfl) (by decide)
instance : ZeroOf Tryd.prog 143 [.nilFunc] := ⟨.nilFunc, fun _ => by kernel_rfl, by kernel_rfl⟩
instance : IsOne Tryd.prog 144 := ⟨fun _ => by kernel_rfl, fun _ => by kernel_rfl⟩
instance : ElOf Tryd.prog 144 1 8 := elOf_mk (by kernel_rfl) (by decide)
instance : ZeroOf Tryd.prog 144 [.nilFunc] := ⟨.nilFunc, fun _ => by kernel_rfl, by kernel_rfl⟩
instance : IsAgg Tryd.prog 145 20 := ⟨fun _ => by kernel_rfl, fun _ => by kernel_rfl⟩
instance : ElOf Tryd.prog 145 20 160 := elOf_mk (by kernel_rfl) (by decide)
instance : ZeroOf Tryd.prog 145 [(.int .u64 0), (.int .u64 0), (.int .u64 0), (.int .u64 0), (.int .u64 0), (.int .u64 0), (.int .u64 0), (.int .u64 0), (.int .u64 0), (.int .u64 0), (.int .u64 0), (.int .u64 0), (.int .u64 0), (.int .u64 0), (.int .u64 0), (.int .u64 0), (.int .u64 0), (.int .u64 0), (.int .u64 0), (.int .u64 0)] := ⟨(.agg #[(.int .u64 0), (.int .u64 0), (.int .u64 0), (.int .u64 0), (.int .u64 0), (.int .u64 0), (.int .u64 0), (.int .u64 0), (.int .u64 0), (.int .u64 0), (.int .u64 0), (.int .u64 0), (.int .u64 0), (.int .u64 0), (.int .u64 0), (.int .u64 0), (.int .u64 0), (.int .u64 0), (.int .u64 0), (.int .u64 0)]), fun _ => by kernel_rfl, by kernel_rfl⟩
instance : IsAgg Tryd.prog 146 65 := ⟨fun _ => by kernel_rfl, fun _ => by kernel_rfl⟩
instance : IsOne Tryd.prog 147 := ⟨fun _ => by kernel_rfl, fun _ => by kernel_rfl⟩
instance : ElOf Tryd.prog 147 1 8 := elOf_mk (by kernel_rfl) (by decide)
instance : ZeroOf Tryd.prog 147 [.nilFunc] := ⟨.nilFunc, fun _ => by kernel_rfl, by kernel_rfl⟩
instance : IsOne Tryd.prog 148 := ⟨fun _ => by kernel_rfl, fun _ => by kernel_rfl⟩
instance : ElOf Tryd.prog 148 1 8 := elOf_mk (by kernel_rfl) (by decide)
instance : ZeroOf Tryd.prog 148 [.nilFunc] := ⟨.nilFunc, fun _ => by kernel_rfl, by kernel_rfl⟩
instance : IsAgg Tryd.prog 149 3 := ⟨fun _ => by kernel_rfl, fun _ => by kernel_rfl⟩
instance : FldAt Tryd.prog 149 0 0 := ⟨fun _ _ _ => by kernel_rfl⟩
instance : FldAt Tryd.prog 149 1 1 := ⟨fun _ _ _ => by kernel_rfl⟩
instance : FldAt Tryd.prog 149 2 2 := ⟨fun _ _ _ => by kernel_rfl⟩
instance : ElOf Tryd.prog 149 3 24 := elOf_mk (by kernel_rfl) (by decide)
instance : ZeroOf Tryd.prog 149 [(.int .i32 0), (.int .i64 0), (.int .i64 0)] := ⟨(.agg #[(.int .i32 0), (.int .i64 0), (.int .i64 0)]), fun _ => by kernel_rfl, by kernel_rfl⟩
instance : PlacesOf Tryd.prog 149 [(0, 1), (1, 1), (2, 1)] [(.int .i32 0), (.int .i64 0), (.int .i64 0)] := placesOf_mk (Tryd.prog.fieldsOf 149) (.agg #[(.int .i32 0), (.int .i64 0), (.int .i64 0)]) (fun _ => by kernel_rfl) (by kernel_rfl) (by kernel_rfl) (fun _ => by kernel_rfl)
instance : IsAgg Tryd.prog 150 3 := ⟨fun _ => by kernel_rfl, fun _ => by kernel_rfl⟩
instance : FldAt Tryd.prog 150 0 0 := ⟨fun _ _ _ => by kernel_rfl⟩
instance : FldAt Tryd.prog 150 1 1 := ⟨fun _ _ _ => by kernel_rfl⟩
instance : FldAt Tryd.prog 150 2 2 := ⟨fun _ _ _ => by kernel_rfl⟩
set_option maxRecDepth 100000 in
instance : FlatEq Tryd.prog 150 [.int .i32, .int .i64, .int .i64] := ⟨by kernel_rfl, .cons (by kernel_rfl) (of_decide_eq_true (by kernel_rfl)) (fun _ => by kernel_rfl) (by kernel_rfl) (.cons (by kernel_rfl) (of_decide_eq_true (by kernel_rfl)) (fun _ => by kernel_rfl) (by kernel_rfl) (.cons (by kernel_rfl) (of_decide_eq_true (by kernel_rfl)) (fun _ => by kernel_rfl) (by kernel_rfl) (.nil))), by kernel_rfl, by kernel_rfl⟩
instance : ElOf Tryd.prog 150 3 24 := elOf_mk (by kernel_rfl) (by decide)
instance : ZeroOf Tryd.prog 150 [(.int .i32 0), (.int .i64 0), (.int .i64 0)] := ⟨(.agg #[(.int .i32 0), (.int .i64 0), (.int .i64 0)]), fun _ => by kernel_rfl, by kernel_rfl⟩
instance : PlacesOf Tryd.prog 150 [(0, 1), (1, 1), (2, 1)] [(.int .i32 0), (.int .i64 0), (.int .i64 0)] := placesOf_mk (Tryd.prog.fieldsOf 150) (.agg #[(.int .i32 0), (.int .i64 0), (.int .i64 0)]) (fun _ => by kernel_rfl) (by kernel_rfl) (by kernel_rfl) (fun _ => by kernel_rfl)
instance : IsOne Tryd.prog 151 := ⟨fun _ => by kernel_rfl, fun _ => by kernel_rfl⟩
instance : ElOf Tryd.prog 151 1 8 := elOf_mk (by kernel_rfl) (by decide)
instance : ZeroOf Tryd.prog 151 [.nilFunc] := ⟨.nilFunc, fun _ => by kernel_rfl, by kernel_rfl⟩
instance : IsOne Tryd.prog 152 := ⟨fun _ => by kernel_rfl, fun _ => by kernel_rfl⟩
instance : NotInt Tryd.prog 152 := ⟨.inr ⟨150, by kernel_rfl⟩⟩
instance : SlOf Tryd.prog 152 150 3 := ⟨by kernel_rfl, fun _ => by kernel_rfl⟩
instance : ElOf Tryd.prog 152 1 24 := elOf_mk (by kernel_rfl) (by decide)
instance : ZeroOf Tryd.prog 152 [(.slice none 0 0)] := ⟨(.slice none 0 0), fun _ => by kernel_rfl, by kernel_rfl⟩
instance : IsOne Tryd.prog 153 := ⟨fun _ => by kernel_rfl, fun _ => by kernel_rfl⟩
instance : ElOf Tryd.prog 153 1 8 := elOf_mk (by kernel_rfl) (by decide)
instance : ZeroOf Tryd.prog 153 [.nilFunc] := ⟨.nilFunc, fun _ => by kernel_rfl, by kernel_rfl⟩
instance : IsOne Tryd.prog 154 := ⟨fun _ => by kernel_rfl, fun _ => by kernel_rfl⟩
instance : ElOf Tryd.prog 154 1 8 := elOf_mk (by kernel_rfl) (by decide)
instance : ZeroOf Tryd.prog 154 [.nilFunc] := ⟨.nilFunc, fun _ => by kernel_rfl, by kernel_rfl⟩
instance : IsOne Tryd.prog 155 := ⟨fun _ => by kernel_rfl, fun _ => by kernel_rfl⟩
instance : ElOf Tryd.prog 155 1 8 := elOf_mk (by kernel_rfl) (by decide)
instance : ZeroOf Tryd.prog 155 [.nilFunc] := ⟨.nilFunc, fun _ => by kernel_rfl, by kernel_rfl⟩
instance : IsOne Tryd.prog 156 := ⟨fun _ => by kernel_rfl, fun _ => by kernel_rfl⟩
instance : ElOf Tryd.prog 156 1 8 := elOf_mk (by kernel_rfl) (by decide)
instance : ZeroOf Tryd.prog 156 [.nilFunc] := ⟨.nilFunc, fun _ => by kernel_rfl, by kernel_rfl⟩
instance : IsAgg Tryd.prog 157 32 := ⟨fun _ => by kernel_rfl, fun _ => by kernel_rfl⟩
instance : ElOf Tryd.prog 157 32 32 := elOf_mk (by kernel_rfl) (by decide)
instance : ZeroOf Tryd.prog 157 [(.int .u8 0), (.int .u8 0), (.int .u8 0), (.int .u8 0), (.int .u8 0), (.int .u8 0), (.int .u8 0), (.int .u8 0), (.int .u8 0), (.int .u8 0), (.int .u8 0), (.int .u8 0), (.int .u8 0), (.int .u8 0), (.int .u8 0), (.int .u8 0), (.int .u8 0), (.int .u8 0), (.int .u8 0), (.int .u8 0), (.int .u8 0), (.int .u8 0), (.int .u8 0), (.int .u8 0), (.int .u8 0), (.int .u8 0), (.int .u8 0), (.int .u8 0), (.int .u8 0), (.int .u8 0), (.int .u8 0), (.int .u8 0)] := ⟨(.agg #[(.int .u8 0), (.int .u8 0), (.int .u8 0), (.int .u8 0), (.int .u8 0), (.int .u8 0), (.int .u8 0), (.int .u8 0), (.int .u8 0), (.int .u8 0), (.int .u8 0), (.int .u8 0), (.int .u8 0), (.int .u8 0), (.int .u8 0), (.int .u8 0), (.int .u8 0), (.int .u8 0), (.int .u8 0), (.int .u8 0), (.int .u8 0), (.int .u8 0), (.int .u8 0), (.int .u8 0), (.int .u8 0), (.int .u8 0), (.int .u8 0), (.int .u8 0), (.int .u8 0), (.int .u8 0), (.int .u8 0), (.int .u8 0)]), fun _ => by kernel_rfl, by kernel_rfl⟩
instance : IsAgg Tryd.prog 158 64 := ⟨fun _ => by kernel_rfl, fun _ => by kernel_rfl⟩
instance : ElOf Tryd.prog 158 64 64 := elOf_mk (by kernel_rfl) (by decide)
instance : ZeroOf Tryd.prog 158 [(.int .u8 0), (.int .u8 0), (.int .u8 0), (.int .u8 0), (.int .u8 0), (.int .u8 0), (.int .u8 0), (.int .u8 0), (.int .u8 0), (.int .u8 0), (.int .u8 0), (.int .u8 0), (.int .u8 0), (.int .u8 0), (.int .u8 0), (.int .u8 0), (.int .u8 0), (.int .u8 0), (.int .u8 0), (.int .u8 0), (.int .u8 0), (.int .u8 0), (.int .u8 0), (.int .u8 0), (.int .u8 0), (.int .u8 0), (.int .u8 0), (.int .u8 0), (.int .u8 0), (.int .u8 0), (.int .u8 0), (.int .u8 0), (.int .u8 0), (.int .u8 0), (.int .u8 0), (.int .u8 0), (.int .u8 0), (.int .u8 0), (.int .u8 0), (.int .u8 0), (.int .u8 0), (.int .u8 0), (.int .u8 0), (.int .u8 0), (.int .u8 0), (.int .u8 0), (.int .u8 0), (.int .u8 0), (.int .u8 0), (.int .u8 0), (.int .u8 0), (.int .u8 0), (.int .u8 0), (.int .u8 0), (.int .u8 0), (.int .u8 0), (.int .u8 0), (.int .u8 0), (.int .u8 0), (.int .u8 0), (.int .u8 0), (.int .u8 0), (.int .u8 0), (.int .u8 0)] := ⟨(.agg #[(.int .u8 0), (.int .u8 0), (.int .u8 0), (.int .u8 0), (.int .u8 0), (.int .u8 0), (.int .u8 0), (.int .u8 0), (.int .u8 0), (.int .u8 0), (.int .u8 0), (.int .u8 0), (.int .u8 0), (.int .u8 0), (.int .u8 0), (.int .u8 0), (.int .u8 0), (.int .u8 0), (.int .u8 0), (.int .u8 0), (.int .u8 0), (.int .u8 0), (.int .u8 0), (.int .u8 0), (.int .u8 0), (.int .u8 0), (.int .u8 0), (.int .u8 0), (.int .u8 0), (.int .u8 0), (.int .u8 0), (.int .u8 0), (.int .u8 0), (.int .u8 0), (.int .u8 0), (.int .u8 0), (.int .u8 0), (.int .u8 0), (.int .u8 0), (.int .u8 0), (.int .u8 0), (.int .u8 0), (.int .u8 0), (.int .u8 0), (.int .u8 0), (.int .u8 0), (.int .u8 0), (.int .u8 0), (.int .u8 0), (.int .u8 0), (.int .u8 0), (.int .u8 0), (.int .u8 0), (.int .u8 0), (.int .u8 0), (.int .u8 0), (.int .u8 0), (.int .u8 0), (.int .u8 0), (.int .u8 0), (.int .u8 0), (.int .u8 0), (.int .u8 0), (.int .u8 0)]), fun _ => by kernel_rfl, by kernel_rfl⟩
instance : IsOne Tryd.prog 159 := ⟨fun _ => by kernel_rfl, fun _ => by kernel_rfl⟩
instance : ElOf Tryd.prog 159 1 8 := elOf_mk (by kernel_rfl) (by decide)
instance : ZeroOf Tryd.prog 159 [.nilFunc] := ⟨.nilFunc, fun _ => by kernel_rfl, by kernel_rfl⟩
instance : IsAgg Tryd.prog 160 4 := ⟨fun _ => by kernel_rfl, fun _ => by kernel_rfl⟩
instance : FldAt Tryd.prog 160 0 0 := ⟨fun _ _ _ => by kernel_rfl⟩
instance : FldAt Tryd.prog 160 1 1 := ⟨fun _ _ _ => by kernel_rfl⟩
instance : FldAt Tryd.prog 160 2 2 := ⟨fun _ _ _ => by kernel_rfl⟩
instance : FldAt Tryd.prog 160 3 3 := ⟨fun _ _ _ => by kernel_rfl⟩
instance : ElOf Tryd.prog 160 4 40 := elOf_mk (by kernel_rfl) (by decide)
instance : ZeroOf Tryd.prog 160 [(.pointer none), (.pointer none), (.pointer none), (.string ⟨#[]⟩)] := ⟨(.agg #[(.pointer none), (.pointer none), (.pointer none), (.string ⟨#[]⟩)]), fun _ => by kernel_rfl, by kernel_rfl⟩
instance : PlacesOf Tryd.prog 160 [(0, 1), (1, 1), (2, 1), (3, 1)] [(.pointer none), (.pointer none), (.pointer none), (.string ⟨#[]⟩)] := placesOf_mk (Tryd.prog.fieldsOf 160) (.agg #[(.pointer none), (.pointer none), (.pointer none), (.string ⟨#[]⟩)]) (fun _ => by kernel_rfl) (by kernel_rfl) (by kernel_rfl) (fun _ => by kernel_rfl)
instance : IsAgg Tryd.prog 161 4 := ⟨fun _ => by kernel_rfl, fun _ => by kernel_rfl⟩
instance : FldAt Tryd.prog 161 0 0 := ⟨fun _ _ _ => by kernel_rfl⟩
instance : FldAt Tryd.prog 161 1 1 := ⟨fun _ _ _ => by kernel_rfl⟩
instance : FldAt Tryd.prog 161 2 2 := ⟨fun _ _ _ => by kernel_rfl⟩
instance : FldAt Tryd.prog 161 3 3 := ⟨fun _ _ _ => by kernel_rfl⟩
instance : ElOf Tryd.prog 161 4 40 := elOf_mk (by kernel_rfl) (by decide)
instance : ZeroOf Tryd.prog 161 [(.pointer none), (.pointer none), (.pointer none), (.string ⟨#[]⟩)] := ⟨(.agg #[(.pointer none), (.pointer none), (.pointer none), (.string ⟨#[]⟩)]), fun _ => by kernel_rfl, by kernel_rfl⟩
instance : PlacesOf Tryd.prog 161 [(0, 1), (1, 1), (2, 1), (3, 1)] [(.pointer none), (.pointer none), (.pointer none), (.string ⟨#[]⟩)] := placesOf_mk (Tryd.prog.fieldsOf 161) (.agg #[(.pointer none), (.pointer none), (.pointer none), (.string ⟨#[]⟩)]) (fun _ => by kernel_rfl) (by kernel_rfl) (by kernel_rfl) (fun _ => by kernel_rfl)
instance : IsOne Tryd.prog 165 := ⟨fun _ => by kernel_rfl, fun _ => by kernel_rfl⟩
instance : ElOf Tryd.prog 165 1 8 := elOf_mk (by kernel_rfl) (by decide)
instance : ZeroOf Tryd.prog 165 [.nilFunc] := ⟨.nilFunc, fun _ => by kernel_rfl, by kernel_rfl⟩
instance : IsOne Tryd.prog 166 := ⟨fun _ => by kernel_rfl, fun _ => by kernel_rfl⟩
instance : IntT Tryd.prog 166 .u8 := ⟨by kernel_rfl⟩
instance : ElOf Tryd.prog 166 1 1 := elOf_mk (by kernel_rfl) (by decide)
instance : ZeroOf Tryd.prog 166 [(.int .u8 0)] := ⟨(.int .u8 0), fun _ => by kernel_rfl, by kernel_rfl⟩
instance : IsOne Tryd.prog 167 := ⟨fun _ => by kernel_rfl, fun _ => by kernel_rfl⟩
instance : IntT Tryd.prog 167 .u8 := ⟨by kernel_rfl⟩
instance : ElOf Tryd.prog 167 1 1 := elOf_mk (by kernel_rfl) (by decide)
instance : ZeroOf Tryd.prog 167 [(.int .u8 0)] := ⟨(.int .u8 0), fun _ => by kernel_rfl, by kernel_rfl⟩
instance : IsOne Tryd.prog 168 := ⟨fun _ => by kernel_rfl, fun _ => by kernel_rfl⟩
instance : ElOf Tryd.prog 168 1 8 := elOf_mk (by kernel_rfl) (by decide)
instance : ZeroOf Tryd.prog 168 [.nilFunc] := ⟨.nilFunc, fun _ => by kernel_rfl, by kernel_rfl⟩
instance : IsOne Tryd.prog 169 := ⟨fun _ => by kernel_rfl, fun _ => by kernel_rfl⟩
instance : ElOf Tryd.prog 169 1 8 := elOf_mk (by kernel_rfl) (by decide)
instance : ZeroOf Tryd.prog 169 [(.pointer none)] := ⟨(.pointer none), fun _ => by kernel_rfl, by kernel_rfl⟩
instance : IsOne Tryd.prog 170 := ⟨fun _ => by kernel_rfl, fun _ => by kernel_rfl⟩
instance : IntT Tryd.prog 170 .i32 := ⟨by kernel_rfl⟩
instance : ElOf Tryd.prog 170 1 4 := elOf_mk (by kernel_rfl) (by decide)
instance : ZeroOf Tryd.prog 170 [(.int .i32 0)] := ⟨(.int .i32 0), fun _ => by kernel_rfl, by kernel_rfl⟩
instance : IsOne Tryd.prog 171 := ⟨fun _ => by kernel_rfl, fun _ => by kernel_rfl⟩
instance : IntT Tryd.prog 171 .i32 := ⟨by kernel_rfl⟩
instance : ElOf Tryd.prog 171 1 4 := elOf_mk (by kernel_rfl) (by decide)
instance : ZeroOf Tryd.prog 171 [(.int .i32 0)] := ⟨(.int .i32 0), fun _ => by kernel_rfl, by kernel_rfl⟩
instance : IsAgg Tryd.prog 172 11 := ⟨fun _ => by kernel_rfl, fun _ => by kernel_rfl⟩
instance : FldAt Tryd.prog 172 0 0 := ⟨fun _ _ _ => by kernel_rfl⟩
instance : FldAt Tryd.prog 172 1 1 := ⟨fun _ _ _ => by kernel_rfl⟩
instance : FldAt Tryd.prog 172 2 2 := ⟨fun _ _ _ => by kernel_rfl⟩
instance : FldAt Tryd.prog 172 3 3 := ⟨fun _ _ _ => by kernel_rfl⟩
instance : FldAt Tryd.prog 172 4 4 := ⟨fun _ _ _ => by kernel_rfl⟩
instance : FldAt Tryd.prog 172 5 5 := ⟨fun _ _ _ => by kernel_rfl⟩
instance : FldAt Tryd.prog 172 6 6 := ⟨fun _ _ _ => by kernel_rfl⟩
instance : FldAt Tryd.prog 172 7 7 := ⟨fun _ _ _ => by kernel_rfl⟩
instance : FldAt Tryd.prog 172 8 8 := ⟨fun _ _ _ => by kernel_rfl⟩
instance : FldAt Tryd.prog 172 9 9 := ⟨fun _ _ _ => by kernel_rfl⟩
instance : FldAt Tryd.prog 172 10 10 := ⟨fun _ _ _ => by kernel_rfl⟩
instance : ElOf Tryd.prog 172 11 48 := elOf_mk (by kernel_rfl) (by decide)
instance : ZeroOf Tryd.prog 172 [(.int .u64 0), (.int .u64 0), (.int .u32 0), (.int .u8 0), (.int .u8 0), (.int .u8 0), (.int .u8 0), .nilFunc, (.pointer none), (.int .i32 0), (.int .i32 0)] := ⟨(.agg #[(.int .u64 0), (.int .u64 0), (.int .u32 0), (.int .u8 0), (.int .u8 0), (.int .u8 0), (.int .u8 0), .nilFunc, (.pointer none), (.int .i32 0), (.int .i32 0)]), fun _ => by kernel_rfl, by kernel_rfl⟩
instance : PlacesOf Tryd.prog 172 [(0, 1), (1, 1), (2, 1), (3, 1), (4, 1), (5, 1), (6, 1), (7, 1), (8, 1), (9, 1), (10, 1)] [(.int .u64 0), (.int .u64 0), (.int .u32 0), (.int .u8 0), (.int .u8 0), (.int .u8 0), (.int .u8 0), .nilFunc, (.pointer none), (.int .i32 0), (.int .i32 0)] := placesOf_mk (Tryd.prog.fieldsOf 172) (.agg #[(.int .u64 0), (.int .u64 0), (.int .u32 0), (.int .u8 0), (.int .u8 0), (.int .u8 0), (.int .u8 0), .nilFunc, (.pointer none), (.int .i32 0), (.int .i32 0)]) (fun _ => by kernel_rfl) (by kernel_rfl) (by kernel_rfl) (fun _ => by kernel_rfl)
instance : IsAgg Tryd.prog 173 11 := ⟨fun _ => by kernel_rfl, fun _ => by kernel_rfl⟩
instance : FldAt Tryd.prog 173 0 0 := ⟨fun _ _ _ => by kernel_rfl⟩
instance : FldAt Tryd.prog 173 1 1 := ⟨fun _ _ _ => by kernel_rfl⟩
instance : FldAt Tryd.prog 173 2 2 := ⟨fun _ _ _ => by kernel_rfl⟩
instance : FldAt Tryd.prog 173 3 3 := ⟨fun _ _ _ => by kernel_rfl⟩
instance : FldAt Tryd.prog 173 4 4 := ⟨fun _ _ _ => by kernel_rfl⟩
instance : FldAt Tryd.prog 173 5 5 := ⟨fun _ _ _ => by kernel_rfl⟩
instance : FldAt Tryd.prog 173 6 6 := ⟨fun _ _ _ => by kernel_rfl⟩
instance : FldAt Tryd.prog 173 7 7 := ⟨fun _ _ _ => by kernel_rfl⟩
instance : FldAt Tryd.prog 173 8 8 := ⟨fun _ _ _ => by kernel_rfl⟩
instance : FldAt Tryd.prog 173 9 9 := ⟨fun _ _ _ => by kernel_rfl⟩
instance : FldAt Tryd.prog 173 10 10 := ⟨fun _ _ _ => by kernel_rfl⟩
instance : ElOf Tryd.prog 173 11 48 := elOf_mk (by kernel_rfl) (by decide)
instance : ZeroOf Tryd.prog 173 [(.int .u64 0), (.int .u64 0), (.int .u32 0), (.int .u8 0), (.int .u8 0), (.int .u8 0), (.int .u8 0), .nilFunc, (.pointer none), (.int .i32 0), (.int .i32 0)] := ⟨(.agg #[(.int .u64 0), (.int .u64 0), (.int .u32 0), (.int .u8 0), (.int .u8 0), (.int .u8 0), (.int .u8 0), .nilFunc, (.pointer none), (.int .i32 0), (.int .i32 0)]), fun _ => by kernel_rfl, by kernel_rfl⟩
instance : PlacesOf Tryd.prog 173 [(0, 1), (1, 1), (2, 1), (3, 1), (4, 1), (5, 1), (6, 1), (7, 1), (8, 1), (9, 1), (10, 1)] [(.int .u64 0), (.int .u64 0), (.int .u32 0), (.int .u8 0), (.int .u8 0), (.int .u8 0), (.int .u8 0), .nilFunc, (.pointer none), (.int .i32 0), (.int .i32 0)] := placesOf_mk (Tryd.prog.fieldsOf 173) (.agg #[(.int .u64 0), (.int .u64 0), (.int .u32 0), (.int .u8 0), (.int .u8 0), (.int .u8 0), (.int .u8 0), .nilFunc, (.pointer none), (.int .i32 0), (.int .i32 0)]) (fun _ => by kernel_rfl) (by kernel_rfl) (by kernel_rfl) (fun _ => by kernel_rfl)
instance : IsAgg Tryd.prog 174 4 := ⟨fun _ => by kernel_rfl, fun _ => by kernel_rfl⟩
instance : FldAt Tryd.prog 174 0 0 := ⟨fun _ _ _ => by kernel_rfl⟩
instance : FldAt Tryd.prog 174 1 1 := ⟨fun _ _ _ => by kernel_rfl⟩
instance : FldAt Tryd.prog 174 2 2 := ⟨fun _ _ _ => by kernel_rfl⟩
instance : FldAt Tryd.prog 174 3 3 := ⟨fun _ _ _ => by kernel_rfl⟩
instance : ElOf Tryd.prog 174 4 40 := elOf_mk (by kernel_rfl) (by decide)
instance : ZeroOf Tryd.prog 174 [(.string ⟨#[]⟩), (.int .i64 0), (.int .i64 0), (.int .i64 0)] := ⟨(.agg #[(.string ⟨#[]⟩), (.int .i64 0), (.int .i64 0), (.int .i64 0)]), fun _ => by kernel_rfl, by kernel_rfl⟩
instance : PlacesOf Tryd.prog 174 [(0, 1), (1, 1), (2, 1), (3, 1)] [(.string ⟨#[]⟩), (.int .i64 0), (.int .i64 0), (.int .i64 0)] := placesOf_mk (Tryd.prog.fieldsOf 174) (.agg #[(.string ⟨#[]⟩), (.int .i64 0), (.int .i64 0), (.int .i64 0)]) (fun _ => by kernel_rfl) (by kernel_rfl) (by kernel_rfl) (fun _ => by kernel_rfl)
instance : IsAgg Tryd.prog 175 4 := ⟨fun _ => by kernel_rfl, fun _ => by kernel_rfl⟩
instance : FldAt Tryd.prog 175 0 0 := ⟨fun _ _ _ => by kernel_rfl⟩
instance : FldAt Tryd.prog 175 1 1 := ⟨fun _ _ _ => by kernel_rfl⟩
instance : FldAt Tryd.prog 175 2 2 := ⟨fun _ _ _ => by kernel_rfl⟩
instance : FldAt Tryd.prog 175 3 3 := ⟨fun _ _ _ => by kernel_rfl⟩
set_option maxRecDepth 100000 in
instance : FlatEq Tryd.prog 175 [.str, .int .i64, .int .i64, .int .i64] := ⟨by kernel_rfl, .cons (by kernel_rfl) (of_decide_eq_true (by kernel_rfl)) (fun _ => by kernel_rfl) (by kernel_rfl) (.cons (by kernel_rfl) (of_decide_eq_true (by kernel_rfl)) (fun _ => by kernel_rfl) (by kernel_rfl) (.cons (by kernel_rfl) (of_decide_eq_true (by kernel_rfl)) (fun _ => by kernel_rfl) (by kernel_rfl) (.cons (by kernel_rfl) (of_decide_eq_true (by kernel_rfl)) (fun _ => by kernel_rfl) (by kernel_rfl) (.nil)))), by kernel_rfl, by kernel_rfl⟩
instance : ElOf Tryd.prog 175 4 40 := elOf_mk (by kernel_rfl) (by decide)
instance : ZeroOf Tryd.prog 175 [(.string ⟨#[]⟩), (.int .i64 0), (.int .i64 0), (.int .i64 0)] := ⟨(.agg #[(.string ⟨#[]⟩), (.int .i64 0), (.int .i64 0), (.int .i64 0)]), fun _ => by kernel_rfl, by kernel_rfl⟩
instance : PlacesOf Tryd.prog 175 [(0, 1), (1, 1), (2, 1), (3, 1)] [(.string ⟨#[]⟩), (.int .i64 0), (.int .i64 0), (.int .i64 0)] := placesOf_mk (Tryd.prog.fieldsOf 175) (.agg #[(.string ⟨#[]⟩), (.int .i64 0), (.int .i64 0), (.int .i64 0)]) (fun _ => by kernel_rfl) (by kernel_rfl) (by kernel_rfl) (fun _ => by kernel_rfl)
instance : IsOne Tryd.prog 176 := ⟨fun _ => by kernel_rfl, fun _ => by kernel_rfl⟩
instance : ElOf Tryd.prog 176 1 8 := elOf_mk (by kernel_rfl) (by decide)
instance : ZeroOf Tryd.prog 176 [(.pointer none)] := ⟨(.pointer none), fun _ => by kernel_rfl, by kernel_rfl⟩
instance : Mixed Tryd.prog := ⟨by kernel_rfl⟩
instance : Ent Tryd.prog 3 := ⟨enters_of Tryd.func3 (by kernel_rfl) rfl⟩
instance : Ent Tryd.prog 4 := ⟨enters_of Tryd.func4 (by kernel_rfl) rfl⟩
instance : Ent Tryd.prog 5 := ⟨enters_of Tryd.func5 (by kernel_rfl) rfl⟩
instance : Ent Tryd.prog 6 := ⟨enters_of Tryd.func6 (by kernel_rfl) rfl⟩
instance : Ent Tryd.prog 7 := ⟨enters_of Tryd.func7 (by kernel_rfl) rfl⟩
instance : Ent Tryd.prog 8 := ⟨enters_of Tryd.func8 (by kernel_rfl) rfl⟩
instance : Ent Tryd.prog 9 := ⟨enters_of Tryd.func9 (by kernel_rfl) rfl⟩
instance : Ent Tryd.prog 10 := ⟨enters_of Tryd.func10 (by kernel_rfl) rfl⟩
instance : Ent Tryd.prog 11 := ⟨enters_of Tryd.func11 (by kernel_rfl) rfl⟩
instance : Ent Tryd.prog 12 := ⟨enters_of Tryd.func12 (by kernel_rfl) rfl⟩
instance : Ent Tryd.prog 13 := ⟨enters_of Tryd.func13 (by kernel_rfl) rfl⟩
instance : Ent Tryd.prog 14 := ⟨enters_of Tryd.func14 (by kernel_rfl) rfl⟩
instance : Ent Tryd.prog 15 := ⟨enters_of Tryd.func15 (by kernel_rfl) rfl⟩
instance : Ent Tryd.prog 16 := ⟨enters_of Tryd.func16 (by kernel_rfl) rfl⟩
instance : Ent Tryd.prog 17 := ⟨enters_of Tryd.func17 (by kernel_rfl) rfl⟩
instance : Ent Tryd.prog 18 := ⟨enters_of Tryd.func18 (by kernel_rfl) rfl⟩
instance : Ent Tryd.prog 19 := ⟨enters_of Tryd.func19 (by kernel_rfl) rfl⟩
instance : Ent Tryd.prog 20 := ⟨enters_of Tryd.func20 (by kernel_rfl) rfl⟩
instance : Ent Tryd.prog 21 := ⟨enters_of Tryd.func21 (by kernel_rfl) rfl⟩
instance : Ent Tryd.prog 22 := ⟨enters_of Tryd.func22 (by kernel_rfl) rfl⟩
instance : Ent Tryd.prog 23 := ⟨enters_of Tryd.func23 (by kernel_rfl) rfl⟩
instance : Ent Tryd.prog 24 := ⟨enters_of Tryd.func24 (by kernel_rfl) rfl⟩
instance : Ent Tryd.prog 25 := ⟨enters_of Tryd.func25 (by kernel_rfl) rfl⟩
instance : Ent Tryd.prog 26 := ⟨enters_of Tryd.func26 (by kernel_rfl) rfl⟩
instance : Ent Tryd.prog 27 := ⟨enters_of Tryd.func27 (by kernel_rfl) rfl⟩
instance : Ent Tryd.prog 28 := ⟨enters_of Tryd.func28 (by kernel_rfl) rfl⟩
instance : Ent Tryd.prog 29 := ⟨enters_of Tryd.func29 (by kernel_rfl) rfl⟩
instance : Ent Tryd.prog 30 := ⟨enters_of Tryd.func30 (by kernel_rfl) rfl⟩
instance : Ent Tryd.prog 31 := ⟨enters_of Tryd.func31 (by kernel_rfl) rfl⟩
instance : Ent Tryd.prog 32 := ⟨enters_of Tryd.func32 (by kernel_rfl) rfl⟩
instance : Ent Tryd.prog 33 := ⟨enters_of Tryd.func33 (by kernel_rfl) rfl⟩
instance : Ent Tryd.prog 34 := ⟨enters_of Tryd.func34 (by kernel_rfl) rfl⟩
instance : Ent Tryd.prog 35 := ⟨enters_of Tryd.func35 (by kernel_rfl) rfl⟩
instance : Ent Tryd.prog 36 := ⟨enters_of Tryd.func36 (by kernel_rfl) rfl⟩
instance : Ent Tryd.prog 37 := ⟨enters_of Tryd.func37 (by kernel_rfl) rfl⟩
instance : Ent Tryd.prog 38 := ⟨enters_of Tryd.func38 (by kernel_rfl) rfl⟩
instance : Ent Tryd.prog 39 := ⟨enters_of Tryd.func39 (by kernel_rfl) rfl⟩
instance : Ent Tryd.prog 40 := ⟨enters_of Tryd.func40 (by kernel_rfl) rfl⟩
instance : Ent Tryd.prog 41 := ⟨enters_of Tryd.func41 (by kernel_rfl) rfl⟩
instance : Ent Tryd.prog 42 := ⟨enters_of Tryd.func42 (by kernel_rfl) rfl⟩
instance : Ent Tryd.prog 43 := ⟨enters_of Tryd.func43 (by kernel_rfl) rfl⟩
instance : Ent Tryd.prog 44 := ⟨enters_of Tryd.func44 (by kernel_rfl) rfl⟩
instance : Ent Tryd.prog 45 := ⟨enters_of Tryd.func45 (by kernel_rfl) rfl⟩
instance : Ent Tryd.prog 46 := ⟨enters_of Tryd.func46 (by kernel_rfl) rfl⟩
instance : Ent Tryd.prog 47 := ⟨enters_of Tryd.func47 (by kernel_rfl) rfl⟩
instance : Ent Tryd.prog 48 := ⟨enters_of Tryd.func48 (by kernel_rfl) rfl⟩
instance : Ent Tryd.prog 49 := ⟨enters_of Tryd.func49 (by kernel_rfl) rfl⟩
instance : Ent Tryd.prog 50 := ⟨enters_of Tryd.func50 (by kernel_rfl) rfl⟩
instance : Ent Tryd.prog 51 := ⟨enters_of Tryd.func51 (by kernel_rfl) rfl⟩
instance : Ent Tryd.prog 52 := ⟨enters_of Tryd.func52 (by kernel_rfl) rfl⟩
instance : Ent Tryd.prog 53 := ⟨enters_of Tryd.func53 (by kernel_rfl) rfl⟩
instance : Ent Tryd.prog 54 := ⟨enters_of Tryd.func54 (by kernel_rfl) rfl⟩
instance : Ent Tryd.prog 55 := ⟨enters_of Tryd.func55 (by kernel_rfl) rfl⟩
instance : Ent Tryd.prog 56 := ⟨enters_of Tryd.func56 (by kernel_rfl) rfl⟩
instance : Ent Tryd.prog 57 := ⟨enters_of Tryd.func57 (by kernel_rfl) rfl⟩
instance : Ent Tryd.prog 58 := ⟨enters_of Tryd.func58 (by kernel_rfl) rfl⟩
instance : Ent Tryd.prog 59 := ⟨enters_of Tryd.func59 (by kernel_rfl) rfl⟩
instance : Ent Tryd.prog 60 := ⟨enters_of Tryd.func60 (by kernel_rfl) rfl⟩
instance : Ent Tryd.prog 61 := ⟨enters_of Tryd.func61 (by kernel_rfl) rfl⟩
instance : Ent Tryd.prog 62 := ⟨enters_of Tryd.func62 (by kernel_rfl) rfl⟩
instance : Ent Tryd.prog 63 := ⟨enters_of Tryd.func63 (by kernel_rfl) rfl⟩
instance : Ent Tryd.prog 64 := ⟨enters_of Tryd.func64 (by kernel_rfl) rfl⟩
instance : Ent Tryd.prog 65 := ⟨enters_of Tryd.func65 (by kernel_rfl) rfl⟩
instance : Ent Tryd.prog 66 := ⟨enters_of Tryd.func66 (by kernel_rfl) rfl⟩
instance : Ent Tryd.prog 67 := ⟨enters_of Tryd.func67 (by kernel_rfl) rfl⟩
instance : Ent Tryd.prog 68 := ⟨enters_of Tryd.func68 (by kernel_rfl) rfl⟩
instance : Ent Tryd.prog 69 := ⟨enters_of Tryd.func69 (by kernel_rfl) rfl⟩
instance : Ent Tryd.prog 70 := ⟨enters_of Tryd.func70 (by kernel_rfl) rfl⟩
instance : Ent Tryd.prog 71 := ⟨enters_of Tryd.func71 (by kernel_rfl) rfl⟩
instance : Ent Tryd.prog 72 := ⟨enters_of Tryd.func72 (by kernel_rfl) rfl⟩
instance : Ent Tryd.prog 73 := ⟨enters_of Tryd.func73 (by kernel_rfl) rfl⟩
instance : Ent Tryd.prog 74 := ⟨enters_of Tryd.func74 (by kernel_rfl) rfl⟩
instance : Ent Tryd.prog 75 := ⟨enters_of Tryd.func75 (by kernel_rfl) rfl⟩
instance : Ent Tryd.prog 76 := ⟨enters_of Tryd.func76 (by kernel_rfl) rfl⟩
instance : Ent Tryd.prog 77 := ⟨enters_of Tryd.func77 (by kernel_rfl) rfl⟩
instance : Ent Tryd.prog 78 := ⟨enters_of Tryd.func78 (by kernel_rfl) rfl⟩
instance : Ent Tryd.prog 79 := ⟨enters_of Tryd.func79 (by kernel_rfl) rfl⟩
instance : Ent Tryd.prog 80 := ⟨enters_of Tryd.func80 (by kernel_rfl) rfl⟩
instance : Ent Tryd.prog 81 := ⟨enters_of Tryd.func81 (by kernel_rfl) rfl⟩
instance : Ent Tryd.prog 82 := ⟨enters_of Tryd.func82 (by kernel_rfl) rfl⟩
instance : Ent Tryd.prog 83 := ⟨enters_of Tryd.func83 (by kernel_rfl) rfl⟩
instance : Ent Tryd.prog 84 := ⟨enters_of Tryd.func84 (by kernel_rfl) rfl⟩
instance : Ent Tryd.prog 85 := ⟨enters_of Tryd.func85 (by kernel_rfl) rfl⟩
instance : Ent Tryd.prog 86 := ⟨enters_of Tryd.func86 (by kernel_rfl) rfl⟩
instance : Ent Tryd.prog 87 := ⟨enters_of Tryd.func87 (by kernel_rfl) rfl⟩
instance : Ent Tryd.prog 88 := ⟨enters_of Tryd.func88 (by kernel_rfl) rfl⟩
instance : Ent Tryd.prog 89 := ⟨enters_of Tryd.func89 (by kernel_rfl) rfl⟩
instance : Ent Tryd.prog 90 := ⟨enters_of Tryd.func90 (by kernel_rfl) rfl⟩
instance : Ent Tryd.prog 91 := ⟨enters_of Tryd.func91 (by kernel_rfl) rfl⟩
instance : Ent Tryd.prog 92 := ⟨enters_of Tryd.func92 (by kernel_rfl) rfl⟩
instance : Ent Tryd.prog 93 := ⟨enters_of Tryd.func93 (by kernel_rfl) rfl⟩
instance : Ent Tryd.prog 94 := ⟨enters_of Tryd.func94 (by kernel_rfl) rfl⟩
instance : Ent Tryd.prog 95 := ⟨enters_of Tryd.func95 (by kernel_rfl) rfl⟩
instance : Ent Tryd.prog 96 := ⟨enters_of Tryd.func96 (by kernel_rfl) rfl⟩
instance : Ent Tryd.prog 97 := ⟨enters_of Tryd.func97 (by kernel_rfl) rfl⟩
instance : Ent Tryd.prog 98 := ⟨enters_of Tryd.func98 (by kernel_rfl) rfl⟩
instance : Ent Tryd.prog 99 := ⟨enters_of Tryd.func99 (by kernel_rfl) rfl⟩
instance : Ent Tryd.prog 100 := ⟨enters_of Tryd.func100 (by kernel_rfl) rfl⟩
instance : Ent Tryd.prog 101 := ⟨enters_of Tryd.func101 (by kernel_rfl) rfl⟩
instance : Ent Tryd.prog 124 := ⟨enters_of Tryd.func124 (by kernel_rfl) rfl⟩
end Go.Proofs.YthacphfjchpoaaaDoor
namespace Go.Proofs.YthacphfjchpoaaaDoor

abbrev Sp := Int × Int
/-- the order of spans: by begin, then by end -/
def ltC (a b : Sp) : Prop := a.1 < b.1 ∨ (a.1 = b.1 ∧ a.2 < b.2)
instance (a b : Sp) : Decidable (ltC a b) := by unfold ltC; exact inferInstance
theorem ltC_sto : STO ltC where
  irr a := by unfold ltC; omega
  trans a b c := by unfold ltC; omega
  tri a b := by
    unfold ltC
    by_cases h : a.1 = b.1 ∧ a.2 = b.2
    · exact .inr (.inl (Prod.ext h.1 h.2))
    · omega
def conS (a b : Sp) : Bool := decide (a.1 ≤ b.1 ∧ b.2 ≤ a.2)
/-- of a list: contains no other one -/
def keepShort (l : List Sp) (s : Sp) : Bool := l.all fun t => !(conS s t) || decide (t = s)
/-- of a list: is in no other one -/
def keepLong (l : List Sp) (s : Sp) : Bool := l.all fun t => !(conS t s) || decide (t = s)
theorem keepShort_iff {l : List Sp} {s : Sp} : keepShort l s = true ↔ ∀ t ∈ l, s.1 ≤ t.1 → t.2 ≤ s.2 → t = s := by
  unfold keepShort conS
  rw [List.all_eq_true]
  refine forall_congr' fun t => forall_congr' fun ht => ?_
  by_cases h : t = s
  · simp [h]
  · simp [h]; omega
theorem keepLong_iff {l : List Sp} {s : Sp} : keepLong l s = true ↔ ∀ t ∈ l, t.1 ≤ s.1 → s.2 ≤ t.2 → t = s := by
  unfold keepLong conS
  rw [List.all_eq_true]
  refine forall_congr' fun t => forall_congr' fun ht => ?_
  by_cases h : t = s
  · simp [h]
  · simp [h]; omega
/-- two places of an ascending list -/
theorem asc_at {l : List Sp} (h : l.Pairwise ltC) {i j : Nat} {s t : Sp} (hs : l[i]? = some s) (ht : l[j]? = some t) (hij : i < j) : ltC s t := by
  obtain ⟨hi, rfl⟩ := List.getElem?_eq_some_iff.1 hs
  obtain ⟨hj, rfl⟩ := List.getElem?_eq_some_iff.1 ht
  exact List.pairwise_iff_getElem.1 h i j hi hj hij
theorem asc_le {l : List Sp} (h : l.Pairwise ltC) {i j : Nat} {s t : Sp} (hs : l[i]? = some s) (ht : l[j]? = some t) (hij : i ≤ j) : s = t ∨ ltC s t := by
  rcases Nat.lt_or_ge i j with h1 | h1
  · exact .inr (asc_at h hs ht h1)
  · have : i = j := by omega
    subst this; rw [hs] at ht; exact .inl (by injection ht)

/-! ### shortest: from the last one on -/
/-- the first one with its begin -/
def isFirst (l : List Sp) (j : Nat) (t : Sp) : Prop := l[j]? = some t ∧ (j = 0 ∨ ∀ u, l[j - 1]? = some u → u.1 ≠ t.1)
/-- of the first ones from place i on, least is the least end (−1: none) -/
def LeastOk (l : List Sp) (i : Nat) (least : Int) : Prop :=
  (least = -1 ∧ ∀ j t, i ≤ j → ¬ isFirst l j t) ∨ (0 < least ∧ (∃ j t, i ≤ j ∧ isFirst l j t ∧ t.2 = least) ∧ ∀ j t, i ≤ j → isFirst l j t → least ≤ t.2)
theorem first_of {l : List Sp} (h : l.Pairwise ltC) : ∀ (j : Nat) (t : Sp), l[j]? = some t → ∃ j' u, j' ≤ j ∧ isFirst l j' u ∧ u.1 = t.1 ∧ u.2 ≤ t.2
  | 0, t, ht => ⟨0, t, Nat.le_refl _, ⟨ht, .inl rfl⟩, rfl, Int.le_refl _⟩
  | j + 1, t, ht => by
    obtain ⟨v, hv⟩ : ∃ v, l[j]? = some v := ⟨_, List.getElem?_eq_getElem (by have := (List.getElem?_eq_some_iff.1 ht).1; omega)⟩
    by_cases e : v.1 = t.1
    · obtain ⟨j', u, h1, h2, h3, h4⟩ := first_of h j v hv
      have h5 := asc_at h hv ht (by omega)
      unfold ltC at h5
      exact ⟨j', u, by omega, h2, by omega, by omega⟩
    · refine ⟨j + 1, t, Nat.le_refl _, ⟨ht, .inr fun u hu => ?_⟩, rfl, Int.le_refl _⟩
      rw [Nat.add_sub_cancel, hv] at hu
      injection hu with hu
      rw [← hu]; exact e
theorem LeastOk.skip {l : List Sp} (h : l.Pairwise ltC) {i : Nat} {s t : Sp} {least : Int} (hs : l[i + 1]? = some s) (ht : l[i]? = some t) (e : t.1 = s.1) (hl : LeastOk l (i + 2) least) : keepShort l s = false ∧ LeastOk l (i + 1) least := by
  constructor
  · rw [Bool.eq_false_iff]
    intro hk
    have h1 := asc_at h ht hs (by omega)
    have := keepShort_iff.1 hk t (List.mem_of_getElem? ht) (by omega) (by unfold ltC at h1; omega)
    rw [this] at h1
    exact ltC_sto.irr s h1
  · have hn : ∀ j u, i + 1 ≤ j → isFirst l j u → i + 2 ≤ j := by
      intro j u hj hf
      by_cases hji : j = i + 1
      · subst hji
        exfalso
        rcases hf.2 with h0 | h0
        · omega
        · have hu : u = s := by have := hf.1; rw [hs] at this; injection this with this; exact this.symm
          subst hu
          exact h0 t ht e
      · omega
    rcases hl with ⟨h1, h2⟩ | ⟨h1, ⟨j, u, h2, h3, h4⟩, h5⟩
    · exact .inl ⟨h1, fun j u hj hf => h2 j u (hn j u hj hf) hf⟩
    · exact .inr ⟨h1, ⟨j, u, by omega, h3, h4⟩, fun j u hj hf => h5 j u (hn j u hj hf) hf⟩
theorem LeastOk.keep {l : List Sp} (h : l.Pairwise ltC) (hv : ∀ s ∈ l, 0 ≤ s.1 ∧ s.1 < s.2) {i : Nat} {s : Sp} {least : Int} (hf : isFirst l i s) (hl : LeastOk l (i + 1) least) (hk : least < 0 ∨ s.2 < least) : keepShort l s = true ∧ LeastOk l i s.2 := by
  have hs := hf.1
  constructor
  · refine keepShort_iff.2 fun t ht h1 h2 => ?_
    obtain ⟨j, hj, rfl⟩ := List.mem_iff_getElem.1 ht
    have hjs : l[j]? = some l[j] := List.getElem?_eq_getElem hj
    generalize l[j] = t at *
    rcases Nat.lt_trichotomy j i with h3 | h3 | h3
    · exfalso
      have h4 := asc_at h hjs hs h3
      unfold ltC at h4
      rcases hf.2 with h5 | h5
      · omega
      · obtain ⟨v, hvv⟩ : ∃ v, l[i - 1]? = some v := ⟨_, List.getElem?_eq_getElem (by have := (List.getElem?_eq_some_iff.1 hs).1; omega)⟩
        have h6 := asc_le h hjs hvv (by omega)
        have h7 := asc_at h hvv hs (by omega)
        have h8 := h5 v hvv
        unfold ltC at h6 h7
        rcases h6 with rfl | h6
        · omega
        · omega
    · subst h3
      rw [hs] at hjs; injection hjs with e; exact e.symm
    · exfalso
      have h4 := asc_at h hs hjs h3
      obtain ⟨j', u, k1, k2, k3, k4⟩ := first_of h j t hjs
      have hij : i + 1 ≤ j' := by
        by_cases hle : j' ≤ i
        · have h5 := asc_le h k2.1 hs hle
          unfold ltC at h4 h5
          rcases h5 with rfl | h5
          · omega
          · omega
        · omega
      rcases hl with ⟨l1, l2⟩ | ⟨l1, _, l3⟩
      · exact l2 j' u hij k2
      · have := l3 j' u hij k2
        omega
  · refine .inr ⟨by have := hv s (List.mem_of_getElem? hs); omega, ⟨i, s, Nat.le_refl _, hf, rfl⟩, fun j t hj ht => ?_⟩
    by_cases hji : j = i
    · subst hji
      have := ht.1; rw [hs] at this; injection this with this; rw [this]; exact Int.le_refl _
    · rcases hl with ⟨l1, l2⟩ | ⟨l1, _, l3⟩
      · exact absurd ht (l2 j t (by omega))
      · have := l3 j t (by omega) ht
        omega
theorem LeastOk.drop {l : List Sp} (h : l.Pairwise ltC) {i : Nat} {s : Sp} {least : Int} (hf : isFirst l i s) (hl : LeastOk l (i + 1) least) (hk : ¬ (least < 0 ∨ s.2 < least)) : keepShort l s = false ∧ LeastOk l i least := by
  rcases hl with ⟨l1, _⟩ | ⟨l1, ⟨j, t, l2, l3, l4⟩, l5⟩
  · omega
  · have h4 := asc_at h hf.1 l3.1 (by omega)
    constructor
    · rw [Bool.eq_false_iff]
      intro hkk
      have := keepShort_iff.1 hkk t (List.mem_of_getElem? l3.1) (by unfold ltC at h4; omega) (by omega)
      rw [this] at h4
      exact ltC_sto.irr s h4
    · refine .inr ⟨l1, ⟨j, t, by omega, l3, l4⟩, fun j' u hj hu => ?_⟩
      by_cases hji : j' = i
      · subst hji
        have := hu.1; rw [hf.1] at this; injection this with this; rw [← this]; omega
      · exact l5 j' u (by omega) hu

/-! ### longest: from the first one on -/
/-- the last one with its begin -/
def isLast (l : List Sp) (j : Nat) (t : Sp) : Prop := l[j]? = some t ∧ ∀ u, l[j + 1]? = some u → u.1 ≠ t.1
def MostOk (l : List Sp) (i : Nat) (most : Int) : Prop :=
  (most = -1 ∧ ∀ j t, j < i → ¬ isLast l j t) ∨ (0 < most ∧ (∃ j t, j < i ∧ isLast l j t ∧ t.2 = most) ∧ ∀ j t, j < i → isLast l j t → t.2 ≤ most)
theorem last_of {l : List Sp} (h : l.Pairwise ltC) : ∀ (n j : Nat) (t : Sp), l.length - j = n → l[j]? = some t → ∃ j' u, j ≤ j' ∧ isLast l j' u ∧ u.1 = t.1 ∧ t.2 ≤ u.2
  | 0, j, t, hn, ht => by have := (List.getElem?_eq_some_iff.1 ht).1; omega
  | n + 1, j, t, hn, ht => by
    cases hv : l[j + 1]? with
    | none => exact ⟨j, t, Nat.le_refl _, ⟨ht, fun u hu => by rw [hv] at hu; cases hu⟩, rfl, Int.le_refl _⟩
    | some v =>
      by_cases e : v.1 = t.1
      · obtain ⟨j', u, h1, h2, h3, h4⟩ := last_of h n (j + 1) v (by omega) hv
        have h5 := asc_at h ht hv (by omega)
        unfold ltC at h5
        exact ⟨j', u, by omega, h2, by omega, by omega⟩
      · exact ⟨j, t, Nat.le_refl _, ⟨ht, fun u hu => by rw [hv] at hu; injection hu with hu; rw [← hu]; exact e⟩, rfl, Int.le_refl _⟩
theorem MostOk.skip {l : List Sp} (h : l.Pairwise ltC) {i : Nat} {s t : Sp} {most : Int} (hs : l[i]? = some s) (ht : l[i + 1]? = some t) (e : t.1 = s.1) (hl : MostOk l i most) : keepLong l s = false ∧ MostOk l (i + 1) most := by
  constructor
  · rw [Bool.eq_false_iff]
    intro hk
    have h1 := asc_at h hs ht (by omega)
    have := keepLong_iff.1 hk t (List.mem_of_getElem? ht) (by omega) (by unfold ltC at h1; omega)
    rw [this] at h1
    exact ltC_sto.irr s h1
  · have hn : ∀ j u, j < i + 1 → isLast l j u → j < i := by
      intro j u hj hf
      by_cases hji : j = i
      · subst hji
        exfalso
        have hu : u = s := by have := hf.1; rw [hs] at this; injection this with this; exact this.symm
        subst hu
        exact hf.2 t ht e
      · omega
    rcases hl with ⟨h1, h2⟩ | ⟨h1, ⟨j, u, h2, h3, h4⟩, h5⟩
    · exact .inl ⟨h1, fun j u hj hf => h2 j u (hn j u hj hf) hf⟩
    · exact .inr ⟨h1, ⟨j, u, by omega, h3, h4⟩, fun j u hj hf => h5 j u (hn j u hj hf) hf⟩
theorem MostOk.keep {l : List Sp} (h : l.Pairwise ltC) (hv : ∀ s ∈ l, 0 ≤ s.1 ∧ s.1 < s.2) {i : Nat} {s : Sp} {most : Int} (hf : isLast l i s) (hl : MostOk l i most) (hk : most < s.2) : keepLong l s = true ∧ MostOk l (i + 1) s.2 := by
  have hs := hf.1
  constructor
  · refine keepLong_iff.2 fun t ht h1 h2 => ?_
    obtain ⟨j, hj, rfl⟩ := List.mem_iff_getElem.1 ht
    have hjs : l[j]? = some l[j] := List.getElem?_eq_getElem hj
    generalize l[j] = t at *
    rcases Nat.lt_trichotomy j i with h3 | h3 | h3
    · exfalso
      have h4 := asc_at h hjs hs h3
      obtain ⟨j', u, k1, k2, k3, k4⟩ := last_of h _ j t rfl hjs
      unfold ltC at h4
      have hij : j' < i := by
        by_cases hle : i ≤ j'
        · have h5 := asc_le h hs k2.1 hle
          unfold ltC at h5
          rcases h5 with rfl | h5
          · omega
          · omega
        · omega
      rcases hl with ⟨l1, l2⟩ | ⟨l1, _, l3⟩
      · exact l2 j' u hij k2
      · have := l3 j' u hij k2
        omega
    · subst h3
      rw [hs] at hjs; injection hjs with e; exact e.symm
    · exfalso
      have h4 := asc_at h hs hjs h3
      unfold ltC at h4
      obtain ⟨v, hvv⟩ : ∃ v, l[i + 1]? = some v := ⟨_, List.getElem?_eq_getElem (by omega)⟩
      have h6 := asc_at h hs hvv (by omega)
      have h7 := asc_le h hvv hjs (by omega)
      have h8 := hf.2 v hvv
      unfold ltC at h6 h7
      rcases h7 with rfl | h7
      · omega
      · omega
  · refine .inr ⟨by have := hv s (List.mem_of_getElem? hs); omega, ⟨i, s, by omega, hf, rfl⟩, fun j t hj ht => ?_⟩
    by_cases hji : j = i
    · subst hji
      have := ht.1; rw [hs] at this; injection this with this; rw [this]; exact Int.le_refl _
    · rcases hl with ⟨l1, l2⟩ | ⟨l1, _, l3⟩
      · exact absurd ht (l2 j t (by omega))
      · have := l3 j t (by omega) ht
        omega
theorem MostOk.drop {l : List Sp} (h : l.Pairwise ltC) (hv : ∀ s ∈ l, 0 ≤ s.1 ∧ s.1 < s.2) {i : Nat} {s : Sp} {most : Int} (hf : isLast l i s) (hl : MostOk l i most) (hk : ¬ most < s.2) : keepLong l s = false ∧ MostOk l (i + 1) most := by
  have hsv := hv s (List.mem_of_getElem? hf.1)
  rcases hl with ⟨l1, _⟩ | ⟨l1, ⟨j, t, l2, l3, l4⟩, l5⟩
  · omega
  · have h4 := asc_at h l3.1 hf.1 l2
    constructor
    · rw [Bool.eq_false_iff]
      intro hkk
      have := keepLong_iff.1 hkk t (List.mem_of_getElem? l3.1) (by unfold ltC at h4; omega) (by omega)
      rw [this] at h4
      exact ltC_sto.irr s h4
    · refine .inr ⟨l1, ⟨j, t, by omega, l3, l4⟩, fun j' u hj hu => ?_⟩
      by_cases hji : j' = i
      · subst hji
        have := hu.1; rw [hf.1] at this; injection this with this; rw [← this]; omega
      · exact l5 j' u (by omega) hu

end Go.Proofs.YthacphfjchpoaaaDoor
namespace Go.Proofs.YthacphfjchpoaaaDoor

/-- the order of lists of integers: by the first difference; a beginning comes first -/
def cmpL : List Int → List Int → Int
  | [], [] => 0
  | [], _ :: _ => -1
  | _ :: _, [] => 1
  | a :: l, b :: m => if a < b then -1 else if b < a then 1 else cmpL l m
def ltK (a b : List Int) : Prop := cmpL a b < 0
end Go.Proofs.YthacphfjchpoaaaDoor
namespace Go.Proofs.YthacphfjchpoaaaDoor

instance (a b : List Int) : Decidable (ltK a b) := by unfold ltK; exact inferInstance
end Go.Proofs.YthacphfjchpoaaaDoor
namespace Go.Proofs.YthacphfjchpoaaaDoor
open Go.RowKit

structure Mt where
  b : Int
  e : Int
  v : Value
  ls : List Int
def spm (m : Mt) : Sp := (m.b, m.e)
def keyM (m : Mt) : List Int := m.b :: m.e :: m.ls
def okS (s : Sp) : Prop := 0 ≤ s.1 ∧ s.1 < s.2
instance (s : Sp) : Decidable (okS s) := by unfold okS; exact inferInstance
def ascM (l : List Mt) : Prop := l.Pairwise fun a b => ltK (keyM a) (keyM b)
instance (l : List Mt) : Decidable (ascM l) := by unfold ascM; exact inferInstance
def goodM (k : Int) (l : List Mt) : Prop := (0 ≤ k ∧ k ≤ 3) ∧ (∀ m ∈ l, okS (spm m)) ∧ ascM l
instance (k : Int) (l : List Mt) : Decidable (goodM k l) := by unfold goodM; exact inferInstance
end Go.Proofs.YthacphfjchpoaaaDoor
namespace Go.Proofs.YthacphfjchpoaaaDoor
open Go.RowKit

end Go.Proofs.YthacphfjchpoaaaDoor
