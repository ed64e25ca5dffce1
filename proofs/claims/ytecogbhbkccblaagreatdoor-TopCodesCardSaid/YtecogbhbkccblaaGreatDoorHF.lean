/- Plain: counting words; words in order. -/
import Derived.Test.YtecogbhbkccblaaGreatDoorGP
import Derived.Test.YtecogbhbkccblaaGreatDoorGR
set_option linter.all false
namespace Go.Proofs.YtecogbhbkccblaaGreatDoor
open Go.RowKit

section
variable {α : Type} [DecidableEq α]
theorem lookB_app (ks : Kvs α) (a : α) (v : Value) (b : α) : lookB (ks ++ [(a, v)]) b = match lookB ks b with | some u => some u | none => if a = b then some v else none := by
  induction ks with
  | nil => rfl
  | cons p ks ih =>
    rw [List.cons_append]
    unfold lookB
    by_cases h : p.1 = b
    · simp [h]
    · rw [if_neg h, if_neg h]; exact ih
theorem lookB_map (ks : Kvs α) (a : α) (v : Value) (b : α) (h : a ∈ ks.map (·.1)) : lookB (ks.map fun p => if p.1 = a then (a, v) else p) b = if b = a then some v else lookB ks b := by
  have h2 : ∀ ks : Kvs α, b ≠ a → lookB (ks.map fun p => if p.1 = a then (a, v) else p) b = lookB ks b := by
    intro ks hb
    induction ks with
    | nil => rfl
    | cons p ks ih =>
      rw [List.map_cons]
      unfold lookB
      rw [ih]
      by_cases hp : p.1 = a
      · have e1 : ¬ a = b := fun e => hb e.symm
        have e2 : ¬ p.1 = b := fun e => hb (by rw [← e, hp])
        rw [if_pos hp, if_neg e1, if_neg e2]
      · rw [if_neg hp]
  by_cases hb : b = a
  · subst hb
    rw [if_pos rfl]
    clear h2
    induction ks with
    | nil => simp at h
    | cons p ks ih =>
      rw [List.map_cons]
      unfold lookB
      by_cases hp : p.1 = b
      · rw [if_pos hp, if_pos rfl]
      · rw [if_neg hp, if_neg hp]
        refine ih ?_
        rw [List.map_cons, List.mem_cons] at h
        rcases h with h | h
        · exact absurd h.symm hp
        · exact h
  · rw [if_neg hb]; exact h2 ks hb
theorem lookB_put (ks : Kvs α) (a : α) (v : Value) (b : α) : lookB (putB ks a v) b = if b = a then some v else lookB ks b := by
  unfold putB
  by_cases h : a ∈ ks.map (·.1)
  · rw [if_pos h]; exact lookB_map ks a v b h
  · rw [if_neg h, lookB_app]
    by_cases hb : b = a
    · subst hb
      rw [lookB_none.2 h, if_pos rfl]
    · rw [if_neg hb, if_neg (fun e => hb e.symm)]
      cases lookB ks b <;> rfl
end
/-- how often a value stands -/
def cV (vs : List ByteArray) (w : ByteArray) : Nat := vs.countP fun v => decide (v = w)
theorem cV_pos {vs : List ByteArray} {w : ByteArray} : 0 < cV vs w ↔ w ∈ vs := by
  unfold cV
  rw [List.countP_pos_iff]
  exact ⟨fun ⟨a, h1, h2⟩ => by rw [decide_eq_true_eq] at h2; exact h2 ▸ h1, fun h => ⟨w, h, decide_eq_true rfl⟩⟩
theorem cV_snoc (vs : List ByteArray) (v w : ByteArray) : cV (vs ++ [v]) w = cV vs w + if v = w then 1 else 0 := by
  unfold cV
  rw [List.countP_append, List.countP_singleton]
  by_cases h : v = w
  · simp [h]
  · simp [h]
theorem cV_cons (vs : List ByteArray) (v w : ByteArray) : cV (v :: vs) w = cV vs w + if v = w then 1 else 0 := by
  unfold cV
  rw [List.countP_cons]
  by_cases h : v = w
  · simp [h]
  · simp [h]
theorem cV_le (vs : List ByteArray) (w : ByteArray) : cV vs w ≤ vs.length := List.countP_le_length
/-- how often each value stands -/
def CntOk (vs : List ByteArray) (ks : Kvs ByteArray) : Prop := ∀ w, lookB ks w = if cV vs w = 0 then none else some (.int .i64 (cV vs w : Nat))
theorem CntOk.nil : CntOk [] [] := fun w => rfl
theorem CntOk.old {vs : List ByteArray} {ks : Kvs ByteArray} (h : CntOk vs ks) (v : ByteArray) : (lookB ks v).getD (.int .i64 0) = .int .i64 (cV vs v : Nat) := by
  rw [h v]
  by_cases hv : cV vs v = 0
  · rw [if_pos hv, hv]; rfl
  · rw [if_neg hv]; rfl
theorem CntOk.put {vs : List ByteArray} {ks : Kvs ByteArray} (h : CntOk vs ks) (v : ByteArray) : CntOk (vs ++ [v]) (putB ks v (.int .i64 ((cV vs v : Nat) + 1))) := fun w => by
  rw [lookB_put, cV_snoc]
  by_cases hw : w = v
  · subst hw
    rw [if_pos rfl, if_pos rfl, if_neg (Nat.succ_ne_zero _)]
    rfl
  · have : ¬ v = w := fun e => hw e.symm
    rw [if_neg hw, h w, if_neg this, Nat.add_zero]
theorem CntOk.keys {vs : List ByteArray} {ks : Kvs ByteArray} (h : CntOk vs ks) (w : ByteArray) : w ∈ ks.map (·.1) ↔ w ∈ vs := by
  have h1 := h w
  rw [← cV_pos (vs := vs)]
  by_cases hv : cV vs w = 0
  · rw [if_pos hv] at h1
    exact ⟨fun hk => absurd hk (lookB_none.1 h1), fun h => by omega⟩
  · rw [if_neg hv] at h1
    refine ⟨fun _ => by omega, fun _ => ?_⟩
    by_cases hk : w ∈ ks.map (·.1)
    · exact hk
    · rw [lookB_none.2 hk] at h1; cases h1
theorem bl_iff : ∀ a b : List UInt8, Op.bytesLess a b = true ↔ a < b
  | _, [] => by rw [bl_nil]; simp
  | [], _ :: _ => by simp [Op.bytesLess]
  | a :: u, b :: v => by
    rw [bl_cons, List.cons_lt_cons_iff, bl_iff u v, UInt8.lt_iff_toNat_lt]
theorem le_iff (a b : List UInt8) : a ≤ b ↔ Op.bytesLess b a = false := by
  rw [← List.not_lt, ← bl_iff, Bool.not_eq_true]
def srtL (l : List (List UInt8)) : List (List UInt8) := l.mergeSort fun x y => decide (x ≤ y)
def srtW (ks : List ByteArray) : List ByteArray := (srtL (ks.map (·.data.toList))).map fun l => ⟨l.toArray⟩
theorem srtL_perm (l : List (List UInt8)) : (srtL l).Perm l := List.mergeSort_perm _ _
theorem srtW_perm (ks : List ByteArray) : (srtW ks).Perm ks := by
  unfold srtW
  have := (srtL_perm (ks.map (·.data.toList))).map fun l => (⟨l.toArray⟩ : ByteArray)
  rwa [List.map_map, show ((fun l : List UInt8 => (⟨l.toArray⟩ : ByteArray)) ∘ fun b : ByteArray => b.data.toList) = id from funext fun b => rfl, List.map_id] at this
theorem srtL_pw (l : List (List UInt8)) : (srtL l).Pairwise fun x y => Op.bytesLess y x = false := by
  unfold srtL
  have := List.pairwise_mergeSort (le := fun x y : List UInt8 => decide (x ≤ y)) (fun a b c h1 h2 => by
    rw [decide_eq_true_eq, le_iff] at *
    rw [Bool.eq_false_iff]
    intro h3
    rcases bl_tri b c with h | h | h
    · have := bl_trans h h3
      rw [h1] at this; cases this
    · subst h; rw [h1] at h3; cases h3
    · rw [h2] at h; cases h) (fun a b => by
    rw [Bool.or_eq_true, decide_eq_true_eq, decide_eq_true_eq, le_iff, le_iff]
    cases h : Op.bytesLess b a with
    | false => exact .inl rfl
    | true =>
      refine .inr ?_
      rw [Bool.eq_false_iff]
      intro h2
      have := bl_trans h h2
      rw [bl_irr] at this; cases this) l
  exact this.imp fun {a b} h => (le_iff a b).1 (by simpa using h)
theorem srtW_ok {ks : List ByteArray} (h : ks.Nodup) : WordsOk (srtW ks) := by
  have hn : (srtW ks).Nodup := (srtW_perm ks).nodup_iff.2 h
  have hp : (srtW ks).Pairwise fun x y => blW y x = false := by
    unfold srtW
    rw [List.pairwise_map]
    exact (srtL_pw _).imp fun h => h
  unfold WordsOk
  refine (hn.and hp).imp ?_
  rintro a b ⟨h1, h2⟩
  rcases blW_tri a b with h | h | h
  · exact h
  · exact absurd h h1
  · rw [h2] at h; cases h
/-- the counts of the words -/
def cntW (vs ws : List ByteArray) : List Nat := ws.map (cV vs)
theorem cntW_len (vs ws : List ByteArray) : (cntW vs ws).length = ws.length := List.length_map _
theorem cntW_get {vs ws : List ByteArray} {n : Nat} {w : ByteArray} (h : ws[n]? = some w) : (cntW vs ws)[n]? = some (cV vs w) := by
  unfold cntW; rw [List.getElem?_map, h]; rfl
theorem cntW_snoc (vs ws : List ByteArray) (w : ByteArray) : cntW vs (ws ++ [w]) = cntW vs ws ++ [cV vs w] := by
  unfold cntW; rw [List.map_append]; rfl
theorem cntW_cons (v : ByteArray) (vs : List ByteArray) : ∀ ws : List ByteArray, (cntW (v :: vs) ws).sum = (cntW vs ws).sum + cV ws v
  | [] => rfl
  | w :: ws => by
    have ih := cntW_cons v vs ws
    unfold cntW at *
    rw [List.map_cons, List.sum_cons, ih, List.map_cons, List.sum_cons, cV_cons, cV_cons]
    by_cases h : v = w
    · have : w = v := h.symm
      rw [if_pos h, if_pos this]; omega
    · have : ¬ w = v := fun e => h e.symm
      rw [if_neg h, if_neg this]; omega
theorem cV_one : ∀ (ws : List ByteArray) (v : ByteArray), ws.Nodup → v ∈ ws → cV ws v = 1
  | [], _, _, h => by cases h
  | w :: ws, v, hn, h => by
    rw [cV_cons]
    rw [List.nodup_cons] at hn
    by_cases hw : w = v
    · subst hw
      have : ¬ 0 < cV ws w := fun h => hn.1 (cV_pos.1 h)
      rw [if_pos rfl]; omega
    · rw [if_neg hw, cV_one ws v hn.2 (by
        rcases List.mem_cons.1 h with h | h
        · exact absurd h.symm hw
        · exact h)]
theorem cntW_sum : ∀ (vs ws : List ByteArray), ws.Nodup → (∀ v ∈ vs, v ∈ ws) → (cntW vs ws).sum = vs.length
  | [], ws, _, _ => by
    have : ∀ ws : List ByteArray, (cntW [] ws).sum = 0 := fun ws => by
      unfold cntW
      induction ws with
      | nil => rfl
      | cons w ws ih => rw [List.map_cons, List.sum_cons, ih]; rfl
    exact this ws
  | v :: vs, ws, h, hm => by
    rw [cntW_cons, cntW_sum vs ws h fun x hx => hm x (List.mem_cons_of_mem _ hx), List.length_cons, cV_one ws v h (hm v List.mem_cons_self)]
theorem words_nodup {ws : List ByteArray} (h : WordsOk ws) : ws.Nodup := h.imp fun {a b} hb e => by rw [e, blW_irr] at hb; cases hb
/-- where a word stands -/
theorem words_at {ws : List ByteArray} {v : ByteArray} (h : v ∈ ws) : ∃ i : Nat, ws[i]? = some v := by
  obtain ⟨i, hi, e⟩ := List.getElem_of_mem h
  exact ⟨i, by rw [List.getElem?_eq_getElem hi, e]⟩
end Go.Proofs.YtecogbhbkccblaaGreatDoor
