/- Plain: what is written: sums, blocks, streams, lists.
   Plain: the symbols of a stream.
   Plain: merging by cutting both in two.
   Plain: two ranges change places; a rotation.
   Plain: and, or of small numbers.
   Plain: a lexicon as it is written.
   Plain: a list of places as it is written.
   Plain: united lists.
   Plain: words in order.
   Plain: lengths have room; the codes by their symbols.
   Plain: the table of codes as it grows.
   Plain: the numbers of a text's values.
   Plain: rows of numbers that are counted up.
   Plain: a number of a stream in its block.
   Plain: a stable sort by blocks.
   Plain: one bit more in the bytes.
   Plain: neighbours change places.
   Plain: a list cut at two places; the last block.
   Plain: weights of package-merge stay small; leaves and packages, one behind the other.
   Plain: the lengths of package-merge as they are counted. -/
import Derived.Test.YtecogbhbkccblaaGreatDoorGQ
set_option linter.all false
namespace Go.Proofs.YtecogbhbkccblaaGreatDoor

/-! ### the sum -/
def stpC (v : Nat) : Nat := if v % 2 = 1 then (v / 2) ^^^ 0x82F63B78 else v / 2
def stepC (v : Nat) : Nat → Nat
  | 0 => v
  | n + 1 => stpC (stepC v n)
def tabC (i : Nat) : Nat := stepC i 4
def nibC (v : Nat) : Nat := (v / 16) ^^^ tabC (v % 16)
def byteC (v c : Nat) : Nat := nibC (nibC (v ^^^ c))
def crcC (bs : List Nat) : Nat := bs.foldl byteC 0xFFFFFFFF
def sumC (bs : List Nat) : Nat := 0xFFFFFFFF - crcC bs
def fourC (s : Nat) : List Nat := [s % 256, s / 256 % 256, s / 65536 % 256, s / 16777216 % 256]
def sealC (bs : List Nat) : List Nat := bs ++ fourC (sumC bs)
theorem stpC_lt {v : Nat} (h : v < 2 ^ 32) : stpC v < 2 ^ 32 := by
  unfold stpC
  by_cases h1 : v % 2 = 1
  · rw [if_pos h1]; exact Nat.xor_lt_two_pow zO zD
  · rw [if_neg h1]; omega
theorem stepC_lt {v : Nat} (h : v < 2 ^ 32) : ∀ n, stepC v n < 2 ^ 32
  | 0 => h
  | n + 1 => stpC_lt (stepC_lt h n)
theorem tabC_lt {i : Nat} (h : i < 16) : tabC i < 2 ^ 32 := stepC_lt zO 4
theorem nibC_lt {v : Nat} (h : v < 2 ^ 32) : nibC v < 2 ^ 32 := Nat.xor_lt_two_pow zO (tabC_lt zO)
theorem byteC_lt {v c : Nat} (h : v < 2 ^ 32) (hc : c < 256) : byteC v c < 2 ^ 32 := nibC_lt (nibC_lt (Nat.xor_lt_two_pow h zO))
theorem crcC_snoc (l : List Nat) (c : Nat) : crcC (l ++ [c]) = byteC (crcC l) c := by unfold crcC; rw [List.foldl_append]; rfl
theorem foldC_lt : ∀ (l : List Nat) (v : Nat), v < 2 ^ 32 → (∀ c ∈ l, c < 256) → l.foldl byteC v < 2 ^ 32
  | [], _, h, _ => h
  | c :: l, v, h, hl => foldC_lt l _ (byteC_lt h (hl c List.mem_cons_self)) fun d hd => hl d (List.mem_cons_of_mem _ hd)
theorem crcC_lt {l : List Nat} (h : ∀ c ∈ l, c < 256) : crcC l < 2 ^ 32 := foldC_lt l _ zD h
theorem fourC_lt {s x : Nat} (h : x ∈ fourC s) : x < 256 := by
  unfold fourC at h
  simp only [List.mem_cons, List.mem_nil_iff, or_false] at h
  rcases h with rfl | rfl | rfl | rfl <;> omega
theorem sealC_len (l : List Nat) : (sealC l).length = l.length + 4 := by unfold sealC fourC; simp
theorem sealC_lt {l : List Nat} (h : ∀ c ∈ l, c < 256) : ∀ c ∈ sealC l, c < 256 := by
  intro c hc
  rcases List.mem_append.1 hc with hc | hc
  · exact h c hc
  · exact fourC_lt hc

/-! ### blocks -/
def lenB (v : Nat) : Nat := if v = 0 then 0 else v.log2 + 1
def szB (v : Nat) : Nat := (max (lenB v) 1 + 6) / 7
def costG (vs : List Nat) (w : Nat) : Nat → List Nat → Nat
  | _, [] => 0
  | b, e :: l => szB (e + 1 - b) + szB (vs[e]?.getD 0 / 2 ^ w) + costG vs w (e + 1) l
theorem costG_snoc (vs : List Nat) (w : Nat) (e : Nat) : ∀ (b : Nat) (l : List Nat), costG vs w b (l ++ [e]) = costG vs w b l + (szB (e + 1 - lastB b l) + szB (vs[e]?.getD 0 / 2 ^ w))
  | b, [] => by simp [costG, lastB]
  | b, x :: l => by
    rw [List.cons_append]
    unfold costG lastB
    rw [costG_snoc vs w e (x + 1) l]
    omega
def costB (vs : List Nat) (w : Nat) : Nat := costG vs w 0 (exI vs w vs.length) + szB vs.length + szB w + szB (exI vs w vs.length).length + (vs.length * w + 7) / 8
def bestB (vs : List Nat) : Nat → Nat
  | 0 => 0
  | w + 1 => if costB vs w < costB vs (bestB vs w) then w else bestB vs w
theorem bestB_le (vs : List Nat) : ∀ n, bestB vs (n + 1) ≤ n
  | 0 => by unfold bestB; unfold bestB; simp
  | n + 1 => by
    have := bestB_le vs n
    rw [bestB]
    by_cases h : costB vs (n + 1) < costB vs (bestB vs (n + 1))
    · rw [if_pos h]; exact Nat.le_refl _
    · rw [if_neg h]; omega
/-- the lower bits of numbers -/
def lowBits (vs : List Nat) (w : Nat) : List Bool := vs.flatMap fun v => bitsOf (v % 2 ^ w) w
theorem lowBits_len (vs : List Nat) (w : Nat) : (lowBits vs w).length = vs.length * w := by
  unfold lowBits
  induction vs with
  | nil => simp
  | cons v vs ih => rw [List.flatMap_cons, List.length_append, ih, bitsOf_len, List.length_cons, Nat.succ_mul]; omega
def encB (vs : List Nat) (w : Nat) : List Nat := putV vs.length ++ (putV w ++ (putV (exI vs w vs.length).length ++ (packB (lowBits vs w) ++ gapB vs w 0 (exI vs w vs.length))))
def packV (vs : List Nat) : List Nat := encB vs (bestB vs 32)

/-! ### streams -/
/-- the bits of a symbol's code -/
def codeBits (f : Nat → Nat) (o : List Nat) (s : Nat) : List Bool := bitsOf (cdO f o (o.idxOf s)) (f s)
def symBits (f : Nat → Nat) (o : List Nat) (ns : List Nat) : List Bool := ns.flatMap (codeBits f o)
def chunk (ns : List Nat) (k : Nat) : List Nat := (ns.drop (64 * k)).take 64
def chunks (ns : List Nat) : List (List Nat) := (List.range ((ns.length + 63) / 64)).map (chunk ns)
def payP (ns : List Nat) : List Nat := putV ns.length ++ (putV 0 ++ (chunks ns).flatMap fun c => putV (packV c).length ++ packV c)
/-- how often each symbol stands -/
def cntsS (ns : List Nat) : List Nat := (List.range (ns.foldl (fun m v => max m (v + 1)) 0)).map fun s => ns.count s
def fS (ns : List Nat) : Nat → Nat := lensH (cntsS ns)
def oS (ns : List Nat) : List Nat := ordH (cntsS ns).length (fS ns)
def payC (ns : List Nat) : List Nat := putV ns.length ++ (putV 1 ++ (putV (cntsS ns).length ++ ((List.range (cntsS ns).length).map (fS ns) ++ (chunks ns).flatMap fun c => putV (symBits (fS ns) (oS ns) c).length ++ packB (symBits (fS ns) (oS ns) c))))
/-! ### lists of places -/
def gapsP : Nat → List Nat → List Bool
  | _, [] => []
  | b, p :: l => deltaB (p + 1 - b) ++ gapsP (p + 1) l
theorem gapsP_app : ∀ (b : Nat) (l m : List Nat), gapsP b (l ++ m) = gapsP b l ++ gapsP (lastB b l) m
  | b, [], m => rfl
  | b, p :: l, m => by
    have e1 : ∀ q, gapsP b (p :: q) = deltaB (p + 1 - b) ++ gapsP (p + 1) q := fun _ => rfl
    have e2 : lastB b (p :: l) = lastB (p + 1) l := rfl
    rw [List.cons_append, e1, e1, e2, gapsP_app (p + 1) l m, List.append_assoc]
theorem chunk_len (ns : List Nat) {k : Nat} (h : k < (ns.length + 63) / 64) : (chunk ns k).length = min 64 (ns.length - 64 * k) := by unfold chunk; rw [List.length_take, List.length_drop]
theorem chunks_join (ns : List Nat) : (chunks ns).flatten = ns := by
  have key : ∀ k, ((List.range k).map (chunk ns)).flatten = ns.take (64 * k) := by
    intro k
    induction k with
    | zero => simp
    | succ k ih =>
      rw [List.range_succ, List.map_append, List.flatten_append, ih]
      unfold chunk
      simp only [List.map_cons, List.map_nil, List.flatten_cons, List.flatten_nil, List.append_nil]
      rw [show 64 * (k + 1) = 64 * k + 64 by omega, List.take_add]
  unfold chunks
  rw [key, List.take_of_length_le zO]
end Go.Proofs.YtecogbhbkccblaaGreatDoor
namespace Go.Proofs.YtecogbhbkccblaaGreatDoor

def mxS (ns : List Nat) : Nat := ns.foldl (fun m v => max m (v + 1)) 0
theorem mx_ge : ∀ (ns : List Nat) (m : Nat), m ≤ ns.foldl (fun m v => max m (v + 1)) m ∧ ∀ v ∈ ns, v < ns.foldl (fun m v => max m (v + 1)) m
  | [], m => ⟨Nat.le_refl _, fun _ h => by cases h⟩
  | x :: ns, m => by
    have ih := mx_ge ns (max m (x + 1))
    rw [List.foldl_cons]
    refine ⟨by omega, fun v hv => ?_⟩
    rcases List.mem_cons.1 hv with rfl | hv
    · omega
    · exact ih.2 v hv
theorem mx_le : ∀ (ns : List Nat) (m B : Nat), m ≤ B → (∀ v ∈ ns, v < B) → ns.foldl (fun m v => max m (v + 1)) m ≤ B
  | [], m, B, h, _ => h
  | x :: ns, m, B, h, hn => by
    rw [List.foldl_cons]
    have := hn x List.mem_cons_self
    exact mx_le ns _ B zO fun v hv => hn v (List.mem_cons_of_mem _ hv)
theorem cntsS_len (ns : List Nat) : (cntsS ns).length = mxS ns := by unfold cntsS mxS; simp
theorem cntsS_get (ns : List Nat) (s : Nat) : (cntsS ns)[s]?.getD 0 = ns.count s := by
  unfold cntsS
  rw [List.getElem?_map]
  rcases Nat.lt_or_ge s (ns.foldl (fun m v => max m (v + 1)) 0) with h | h
  · rw [List.getElem?_range h]; rfl
  · rw [List.getElem?_eq_none (by simpa using h), List.count_eq_zero_of_not_mem fun hm => ?_]
    · rfl
    · have := (mx_ge ns 0).2 s hm; omega
theorem oS_ord {ns : List Nat} {B : Nat} (hB : B < 2 ^ 14) (h : ∀ v ∈ ns, v < B) : Ord (fS ns) (oS ns) := by
  refine lensH_ord ?_
  rw [cntsS_len]
  exact Nat.lt_of_le_of_lt (mx_le ns 0 B (Nat.zero_le _) h) hB
theorem oS_mem {ns : List Nat} {B : Nat} (hB : B < 2 ^ 14) (h : ∀ v ∈ ns, v < B) {s : Nat} : s ∈ oS ns ↔ s ∈ ns := by
  have hc : (cntsS ns).length < 2 ^ 14 := by
    rw [cntsS_len]
    exact Nat.lt_of_le_of_lt (mx_le ns 0 B (Nat.zero_le _) h) hB
  unfold oS fS
  rw [ordH_mem, lensH_pos hc, cntsS_get, List.count_pos_iff, cntsS_len]
  exact ⟨fun hh => hh.2, fun hh => ⟨(mx_ge ns 0).2 s hh, hh⟩⟩
/-- a symbol's place and its length -/
theorem sym_at {ns : List Nat} {B : Nat} (hB : B < 2 ^ 14) (h : ∀ v ∈ ns, v < B) {s : Nat} (hs : s ∈ ns) :
    (oS ns).idxOf s < (oS ns).length ∧ (oS ns)[(oS ns).idxOf s]? = some s ∧ 1 ≤ fS ns s ∧ fS ns s ≤ 15 := by
  have hm := (oS_mem hB h).2 hs
  have hi := List.idxOf_lt_length_of_mem hm
  have hg : (oS ns)[(oS ns).idxOf s]? = some s := by rw [List.getElem?_eq_getElem hi, List.getElem_idxOf]
  have ho := (oS_ord hB h).can
  have h1 := ho.pos _ hi
  have h2 := ho.top _ hi
  rw [hg] at h1 h2
  exact ⟨hi, hg, h1, h2⟩
theorem fS_le {ns : List Nat} {B : Nat} (hB : B < 2 ^ 14) (h : ∀ v ∈ ns, v < B) (s : Nat) : fS ns s ≤ 15 := by
  by_cases hs : s ∈ ns
  · exact (sym_at hB h hs).2.2.2
  · have hc : (cntsS ns).length < 2 ^ 14 := by
      rw [cntsS_len]
      exact Nat.lt_of_le_of_lt (mx_le ns 0 B (Nat.zero_le _) h) hB
    have : ¬ 0 < fS ns s := by
      unfold fS
      rw [lensH_pos hc, cntsS_get, List.count_pos_iff]
      exact hs
    omega
theorem codeBits_len (f : Nat → Nat) (o : List Nat) (s : Nat) : (codeBits f o s).length = f s := bitsOf_len _ _
theorem symBits_len {f : Nat → Nat} {o : List Nat} : ∀ ns : List Nat, (∀ s ∈ ns, f s ≤ 15) → (symBits f o ns).length ≤ 15 * ns.length
  | [], _ => by simp [symBits]
  | s :: ns, h => by
    have ih := symBits_len (o := o) ns fun x hx => h x (List.mem_cons_of_mem _ hx)
    have := h s List.mem_cons_self
    unfold symBits at ih ⊢
    rw [List.flatMap_cons, List.length_append, codeBits_len, List.length_cons]
    omega
end Go.Proofs.YtecogbhbkccblaaGreatDoor
namespace Go.Proofs.YtecogbhbkccblaaGreatDoor

section
variable {α : Type} {key : α → Int}
theorem ks_le {l : List α} (h : KSorted key l) {i j : Nat} (hij : i ≤ j) (hj : j < l.length) : key (l[i]'zO) ≤ key l[j] := by
  rcases Nat.lt_or_eq_of_le hij with h1 | h1
  · exact (List.pairwise_iff_getElem.1 h) i j zO hj h1
  · subst h1; exact Int.le_refl _
/-- the cut of a merge -/
theorem mrg_cut {X Y : List α} (hX : KSorted key X) (hY : KSorted key Y) (s t : Nat) (hs : s ≤ X.length) (ht : t ≤ Y.length)
    (h1 : ∀ (i : Nat) (hi : i < X.length) (hy : t < Y.length), i + 1 = s → key X[i] ≤ key Y[t])
    (h2 : ∀ (j : Nat) (hj : j < Y.length) (hx : s < X.length), j + 1 = t → key Y[j] < key X[s]) :
    mrg key X Y = mrg key (X.take s) (Y.take t) ++ mrg key (X.drop s) (Y.drop t) := by
  have := mrg_parts (key := key) (X.take s) (X.drop s) (Y.take t) (Y.drop t) ?_ ?_
  · rw [List.take_append_drop, List.take_append_drop] at this
    exact this
  · intro x hx y hy
    obtain ⟨i, hi, rfl⟩ := List.getElem_of_mem hx
    obtain ⟨j, hj, rfl⟩ := List.getElem_of_mem hy
    rw [List.length_take] at hi
    rw [List.length_drop] at hj
    rw [List.getElem_take, List.getElem_drop]
    have a1 := ks_le hX (show i ≤ s - 1 by omega) zO
    have a2 := ks_le hY (show t ≤ t + j by omega) zO
    have a3 := h1 (s - 1) zO zO zO
    omega
  · intro x hx y hy
    obtain ⟨i, hi, rfl⟩ := List.getElem_of_mem hx
    obtain ⟨j, hj, rfl⟩ := List.getElem_of_mem hy
    rw [List.length_drop] at hi
    rw [List.length_take] at hj
    rw [List.getElem_take, List.getElem_drop]
    have a1 := ks_le hY (show j ≤ t - 1 by omega) zO
    have a2 := ks_le hX (show s ≤ s + i by omega) zO
    have a3 := h2 (t - 1) zO zO zO
    omega
/-- one element into a list: behind all that are less -/
theorem mrg_oneL {x : α} {Y : List α} (hY : KSorted key Y) (t : Nat) (ht : t ≤ Y.length) (h1 : ∀ (hy : t < Y.length), key x ≤ key Y[t]) (h2 : ∀ (j : Nat) (hj : j < Y.length), j + 1 = t → key Y[j] < key x) :
    mrg key [x] Y = Y.take t ++ x :: Y.drop t := by
  have h := mrg_parts (key := key) [] [x] (Y.take t) (Y.drop t) (by simp) ?_
  · rw [List.nil_append, List.take_append_drop, mrg_nil'] at h
    rw [h]
    congr 1
    have h3 := mrg_parts (key := key) [x] [] [] (Y.drop t) ?_ (by simp)
    · rw [List.append_nil, List.nil_append, mrg_nil, mrg_nil'] at h3
      exact h3
    · intro z hz y hy
      rw [List.mem_singleton] at hz
      subst hz
      obtain ⟨j, hj, rfl⟩ := List.getElem_of_mem hy
      rw [List.length_drop] at hj
      rw [List.getElem_drop]
      have a2 := ks_le hY (show t ≤ t + j by omega) zO
      have := h1 zO
      omega
  · intro z hz y hy
    rw [List.mem_singleton] at hz
    subst hz
    obtain ⟨j, hj, rfl⟩ := List.getElem_of_mem hy
    rw [List.length_take] at hj
    rw [List.getElem_take]
    have a1 := ks_le hY (show j ≤ t - 1 by omega) zO
    have := h2 (t - 1) zO zO
    omega
/-- one element from the right: behind all that are not greater -/
theorem mrg_oneR {y : α} {X : List α} (hX : KSorted key X) (s : Nat) (hs : s ≤ X.length) (h1 : ∀ (i : Nat) (hi : i < X.length), i + 1 = s → key X[i] ≤ key y) (h2 : ∀ (hx : s < X.length), key y < key X[s]) :
    mrg key X [y] = X.take s ++ y :: X.drop s := by
  have h := mrg_parts (key := key) (X.take s) (X.drop s) [] [y] ?_ (by simp)
  · rw [List.nil_append, List.take_append_drop, mrg_nil] at h
    rw [h]
    congr 1
    have h3 := mrg_parts (key := key) [] (X.drop s) [y] [] (by simp) ?_
    · rw [List.append_nil, List.nil_append, mrg_nil, mrg_nil'] at h3
      exact h3
    · intro x hx z hz
      rw [List.mem_singleton] at hz
      subst hz
      obtain ⟨i, hi, rfl⟩ := List.getElem_of_mem hx
      rw [List.length_drop] at hi
      rw [List.getElem_drop]
      have a2 := ks_le hX (show s ≤ s + i by omega) zO
      have := h2 zO
      omega
  · intro x hx z hz
    rw [List.mem_singleton] at hz
    subst hz
    obtain ⟨i, hi, rfl⟩ := List.getElem_of_mem hx
    rw [List.length_take] at hi
    rw [List.getElem_take]
    have a1 := ks_le hX (show i ≤ s - 1 by omega) zO
    have := h1 (s - 1) zO zO
    omega
end
end Go.Proofs.YtecogbhbkccblaaGreatDoor
namespace Go.Proofs.YtecogbhbkccblaaGreatDoor

section
variable {α : Type}
theorem set_mid (X Y : List α) (a b : α) : (X ++ a :: Y).set X.length b = X ++ b :: Y := by
  rw [List.set_append_right _ _ (Nat.le_refl _), Nat.sub_self, List.set_cons_zero]
theorem get_mid (X Y : List α) (a : α) : (X ++ a :: Y)[X.length]? = some a := by
  rw [List.getElem?_append_right (Nat.le_refl _), Nat.sub_self]; rfl
/-- k elements of A and B have changed places -/
def swK (P A M B Q : List α) (k : Nat) : List α := P ++ ((B.take k ++ A.drop k) ++ (M ++ ((A.take k ++ B.drop k) ++ Q)))
theorem swK_zero (P A M B Q : List α) : swK P A M B Q 0 = P ++ (A ++ (M ++ (B ++ Q))) := by unfold swK; simp
theorem swK_all (P A M B Q : List α) {n : Nat} (ha : A.length = n) (hb : B.length = n) : swK P A M B Q n = P ++ (B ++ (M ++ (A ++ Q))) := by
  unfold swK
  rw [List.take_of_length_le zO, List.drop_eq_nil_of_le zO, List.take_of_length_le zO, List.drop_eq_nil_of_le zO, List.append_nil, List.append_nil]
theorem swK_step (P A M B Q : List α) {n k : Nat} (ha : A.length = n) (hb : B.length = n) (hk : k < n) :
    ∃ x y, (swK P A M B Q k)[P.length + k]? = some x ∧ (swK P A M B Q k)[P.length + n + M.length + k]? = some y ∧
      ((swK P A M B Q k).set (P.length + k) y).set (P.length + n + M.length + k) x = swK P A M B Q (k + 1) := by
  have hA : A.drop k = A[k] :: A.drop (k + 1) := List.drop_eq_getElem_cons zO
  have hB : B.drop k = B[k] :: B.drop (k + 1) := List.drop_eq_getElem_cons zO
  have tA : A.take (k + 1) = A.take k ++ [A[k]] := by rw [List.take_add_one, List.getElem?_eq_getElem zO]; rfl
  have tB : B.take (k + 1) = B.take k ++ [B[k]] := by rw [List.take_add_one, List.getElem?_eq_getElem zO]; rfl
  have e1 : ∀ z, P ++ ((B.take k ++ z :: A.drop (k + 1)) ++ (M ++ ((A.take k ++ B.drop k) ++ Q))) = (P ++ B.take k) ++ z :: (A.drop (k + 1) ++ (M ++ ((A.take k ++ B.drop k) ++ Q))) := fun z => by simp [List.append_assoc]
  have e2 : ∀ y z, P ++ ((B.take k ++ y :: A.drop (k + 1)) ++ (M ++ ((A.take k ++ z :: B.drop (k + 1)) ++ Q))) = (P ++ (B.take k ++ (y :: A.drop (k + 1) ++ (M ++ A.take k)))) ++ z :: (B.drop (k + 1) ++ Q) := fun y z => by simp [List.append_assoc]
  have l1 : (P ++ B.take k).length = P.length + k := by rw [List.length_append, List.length_take]; omega
  have l2 : ∀ y, (P ++ (B.take k ++ (y :: A.drop (k + 1) ++ (M ++ A.take k)))).length = P.length + n + M.length + k := fun y => by
    simp only [List.length_append, List.length_take, List.length_cons, List.length_drop]
    omega
  have s0 : swK P A M B Q k = P ++ ((B.take k ++ A[k] :: A.drop (k + 1)) ++ (M ++ ((A.take k ++ B.drop k) ++ Q))) := by unfold swK; rw [← hA]
  have s1 : swK P A M B Q k = P ++ ((B.take k ++ A[k] :: A.drop (k + 1)) ++ (M ++ ((A.take k ++ B[k] :: B.drop (k + 1)) ++ Q))) := by rw [s0, hB]
  refine ⟨A[k], B[k], ?_, ?_, ?_⟩
  · rw [s0, e1, ← l1, get_mid]
  · rw [s1, e2, ← l2 A[k], get_mid]
  · rw [s0, e1, ← l1, set_mid, ← e1, hB, e2, ← l2 B[k], set_mid, ← e2]
    unfold swK
    rw [tA, tB]
    simp only [List.append_assoc, List.cons_append, List.nil_append]
/-- the steps of a rotation -/
theorem rot_left (P A1 A2 B Q : List α) : P ++ (B ++ ((A1 ++ A2) ++ Q)) = (P ++ B) ++ (A1 ++ (A2 ++ Q)) := by simp [List.append_assoc]
end
end Go.Proofs.YtecogbhbkccblaaGreatDoor
namespace Go.Proofs.YtecogbhbkccblaaGreatDoor

theorem and_1 (a : Nat) : a &&& 1 = a % 2 := Nat.and_two_pow_sub_one_eq_mod a 1
theorem and_7 (a : Nat) : a &&& 7 = a % 8 := Nat.and_two_pow_sub_one_eq_mod a 3
theorem and_15 (a : Nat) : a &&& 15 = a % 16 := Nat.and_two_pow_sub_one_eq_mod a 4
theorem and_127 (a : Nat) : a &&& 127 = a % 128 := Nat.and_two_pow_sub_one_eq_mod a 7
theorem and_mask (a n : Nat) : a &&& (2 ^ n - 1) = a % 2 ^ n := Nat.and_two_pow_sub_one_eq_mod a n
theorem or_hi (h l n : Nat) (hl : l < 2 ^ n) : h * 2 ^ n ||| l = h * 2 ^ n + l := by
  have := Nat.two_pow_add_eq_or_of_lt hl h
  rw [Nat.mul_comm]
  exact this.symm
theorem or_lo (h l n : Nat) (hl : l < 2 ^ n) : l ||| h * 2 ^ n = l + h * 2 ^ n := by rw [Nat.or_comm, or_hi h l n hl, Nat.add_comm]
theorem or_bit (v b : Nat) (hb : b < 2) : 2 * v ||| b = 2 * v + b := by
  have := or_hi v b 1 zO
  rwa [Nat.pow_one, Nat.mul_comm v 2] at this
theorem or_128 {a : Nat} (h : a < 256) : a ||| 128 = a % 128 + 128 := by
  rcases Nat.lt_or_ge a 128 with h1 | h1
  · have := or_lo 1 a 7 zO
    rw [Nat.mod_eq_of_lt h1]
    simpa using this
  · obtain ⟨b, rfl⟩ : ∃ b, a = b + 128 := ⟨a - 128, by omega⟩
    have hb : b < 2 ^ 7 := by omega
    have e : b + 128 = b ||| 1 * 2 ^ 7 := (or_lo 1 b 7 hb).symm
    rw [e, show (128 : Nat) = 1 * 2 ^ 7 from rfl, Nat.or_assoc, Nat.or_self, or_lo 1 b 7 hb]
    omega
/-- the seven bits that come, laid above those that are there -/
theorem or_seven (v i : Nat) : v % 128 ^ i ||| (v / 128 ^ i % 128) * 2 ^ (7 * i) = v % 128 ^ (i + 1) := by
  have e : (128 : Nat) ^ i = 2 ^ (7 * i) := by rw [show (128 : Nat) = 2 ^ 7 from rfl, ← Nat.pow_mul]
  rw [← putV_acc v i, e, or_lo _ _ _ (Nat.mod_lt _ (Nat.two_pow_pos _))]
theorem or_top {v : Nat} (hv : v ≠ 0) : 1 * 2 ^ v.log2 ||| v % 2 ^ v.log2 = v := by
  rw [or_hi 1 _ _ (Nat.mod_lt _ (Nat.two_pow_pos _)), Nat.one_mul]
  exact top_log2 hv
/-- the bits of a number, one behind the other -/
theorem val_step (v q n : Nat) (h : n < q) : 2 * (v / 2 ^ (q - n)) ||| (v.testBit (q - 1 - n)).toNat = v / 2 ^ (q - (n + 1)) := by
  rw [or_bit _ _ (by cases v.testBit (q - 1 - n) <;> decide), code_bit h]
end Go.Proofs.YtecogbhbkccblaaGreatDoor
namespace Go.Proofs.YtecogbhbkccblaaGreatDoor

/-- how many bytes two texts have in common at their beginnings -/
def comL : List UInt8 → List UInt8 → Nat
  | a :: l, b :: m => if a = b then comL l m + 1 else 0
  | _, _ => 0
theorem comL_le : ∀ l m : List UInt8, comL l m ≤ l.length ∧ comL l m ≤ m.length
  | [], m => by simp [comL]
  | a :: l, [] => by simp [comL]
  | a :: l, b :: m => by
    have ih := comL_le l m
    unfold comL
    by_cases h : a = b
    · rw [if_pos h, List.length_cons, List.length_cons]; omega
    · rw [if_neg h]; exact ⟨Nat.zero_le _, Nat.zero_le _⟩
theorem comL_take : ∀ l m : List UInt8, l.take (comL l m) = m.take (comL l m)
  | [], m => by simp [comL]
  | a :: l, [] => by simp [comL]
  | a :: l, b :: m => by
    unfold comL
    by_cases h : a = b
    · subst h; rw [if_pos rfl, List.take_succ_cons, List.take_succ_cons, comL_take l m]
    · rw [if_neg h]; rfl
theorem comL_join (l m : List UInt8) : l.take (comL l m) ++ m.drop (comL l m) = m := by rw [comL_take, List.take_append_drop]
/-- below it the bytes are one, at it they differ -/
theorem comL_get : ∀ (l m : List UInt8) (i : Nat), (∀ j, j < i → l[j]? = m[j]?) → i ≤ l.length → i ≤ m.length → (i = comL l m ↔ ¬ (i < l.length ∧ i < m.length ∧ l[i]? = m[i]?))
  | [], m, i, _, h1, _ => by
    have : i = 0 := by simpa using h1
    subst this
    simp [comL]
  | a :: l, [], i, _, _, h2 => by
    have : i = 0 := by simpa using h2
    subst this
    simp [comL]
  | a :: l, b :: m, 0, _, _, _ => by
    unfold comL
    by_cases h : a = b
    · rw [if_pos h]; simp [h]
    · rw [if_neg h]; simp [h]
  | a :: l, b :: m, i + 1, h, h1, h2 => by
    have hab : a = b := by
      have := h 0 zO
      simpa using this
    have ih := comL_get l m i (fun j hj => by have := h (j + 1) zO; simpa using this) (by simpa using h1) (by simpa using h2)
    unfold comL
    rw [if_pos hab]
    simp only [List.length_cons, List.getElem?_cons_succ, Nat.add_lt_add_iff_right, Nat.add_right_cancel_iff]
    exact ih
def natL (l : List UInt8) : List Nat := l.map UInt8.toNat
/-- words with their counts, behind a word -/
def encL : List UInt8 → List (ByteArray × Nat) → List Nat
  | _, [] => []
  | b, (w, c) :: l => putV (comL b w.data.toList) ++ (putV (w.data.toList.length - comL b w.data.toList) ++ (natL (w.data.toList.drop (comL b w.data.toList)) ++ (putV (c - 1) ++ encL w.data.toList l)))
def lastL : List UInt8 → List (ByteArray × Nat) → List UInt8
  | b, [] => b
  | _, (w, _) :: l => lastL w.data.toList l
theorem encL_app : ∀ (b : List UInt8) (l m : List (ByteArray × Nat)), encL b (l ++ m) = encL b l ++ encL (lastL b l) m
  | b, [], m => rfl
  | b, (w, c) :: l, m => by
    have e1 : ∀ q, encL b ((w, c) :: q) = putV (comL b w.data.toList) ++ (putV (w.data.toList.length - comL b w.data.toList) ++ (natL (w.data.toList.drop (comL b w.data.toList)) ++ (putV (c - 1) ++ encL w.data.toList q))) := fun _ => rfl
    have e2 : lastL b ((w, c) :: l) = lastL w.data.toList l := rfl
    rw [List.cons_append, e1, e1, e2, encL_app w.data.toList l m]
    simp only [List.append_assoc]
def encX (l : List (ByteArray × Nat)) : List Nat := putV l.length ++ encL [] l
/-- what follows once the words before i are read -/
theorem encL_at {b : List UInt8} {l : List (ByteArray × Nat)} {i : Nat} {x : ByteArray × Nat} (h : l[i]? = some x) :
    encL (lastL b (l.take i)) (l.drop i) = putV (comL (lastL b (l.take i)) x.1.data.toList) ++ (putV (x.1.data.toList.length - comL (lastL b (l.take i)) x.1.data.toList) ++ (natL (x.1.data.toList.drop (comL (lastL b (l.take i)) x.1.data.toList)) ++ (putV (x.2 - 1) ++ encL x.1.data.toList (l.drop (i + 1))))) := by
  have hi : i < l.length := by
    rcases Nat.lt_or_ge i l.length with h1 | h1
    · exact h1
    · rw [List.getElem?_eq_none h1] at h; cases h
  rw [List.drop_eq_getElem_cons hi]
  rw [List.getElem?_eq_getElem hi] at h
  rw [Option.some.inj h]
  rfl
theorem lastL_snoc : ∀ (b : List UInt8) (l : List (ByteArray × Nat)) (x : ByteArray × Nat), lastL b (l ++ [x]) = x.1.data.toList
  | _, [], _ => rfl
  | _, (w, _) :: l, x => lastL_snoc w.data.toList l x
end Go.Proofs.YtecogbhbkccblaaGreatDoor
namespace Go.Proofs.YtecogbhbkccblaaGreatDoor

def bitP (ps : List Nat) (i : Nat) : Nat := (gapsP 0 (ps.take i)).length
def skipN (ps : List Nat) : Nat := (ps.length + 15) / 16
def skipP (ps : List Nat) : List (Nat × Nat) := (List.range (skipN ps)).map fun k => (ps[16 * k]?.getD 0, bitP ps (16 * k))
def skB (ps : List Nat) (m : Nat) : List Nat := (List.range m).flatMap fun k => putV (ps[16 * (k + 1)]?.getD 0 - ps[16 * k]?.getD 0) ++ putV (bitP ps (16 * (k + 1)) - bitP ps (16 * k))
def encPo (ps : List Nat) : List Nat := putV ps.length ++ (putV (gapsP 0 ps).length ++ (packB (gapsP 0 ps) ++ skB ps (skipN ps - 1)))
theorem skB_succ (ps : List Nat) (m : Nat) : skB ps (m + 1) = skB ps m ++ (putV (ps[16 * (m + 1)]?.getD 0 - ps[16 * m]?.getD 0) ++ putV (bitP ps (16 * (m + 1)) - bitP ps (16 * m))) := by
  unfold skB
  rw [List.range_succ, List.flatMap_append, List.flatMap_singleton]
theorem lastB_take {ps : List Nat} {i : Nat} (hi : i < ps.length) : lastB 0 (ps.take (i + 1)) = ps[i] + 1 := by
  rw [List.take_add_one, List.getElem?_eq_getElem hi, Option.toList_some, lastB_snoc]
theorem take_gaps {ps : List Nat} {i : Nat} (hi : i < ps.length) : gapsP 0 (ps.take (i + 1)) = gapsP 0 (ps.take i) ++ deltaB (ps[i] + 1 - lastB 0 (ps.take i)) := by
  rw [List.take_add_one, List.getElem?_eq_getElem hi, Option.toList_some, gapsP_app]
  simp [gapsP]
theorem bitP_all (ps : List Nat) : bitP ps ps.length = (gapsP 0 ps).length := by unfold bitP; rw [List.take_length]
/-- what stands behind the first i gaps -/
theorem gaps_at {ps : List Nat} {i : Nat} (hi : i < ps.length) : ∃ post, gapsP 0 ps = gapsP 0 (ps.take i) ++ (deltaB (ps[i] + 1 - lastB 0 (ps.take i)) ++ post) := by
  refine ⟨gapsP (lastB 0 (ps.take (i + 1))) (ps.drop (i + 1)), ?_⟩
  rw [← List.append_assoc, ← take_gaps hi, ← gapsP_app, List.take_append_drop]
theorem bitP_mono (ps : List Nat) : ∀ {i j : Nat}, i ≤ j → bitP ps i ≤ bitP ps j := by
  intro i j h
  unfold bitP
  have : ps.take j = ps.take i ++ (ps.take j).drop i := by
    have := List.take_append_drop i (ps.take j)
    rw [List.take_take, Nat.min_eq_left h] at this
    exact this.symm
  rw [this, gapsP_app, List.length_append]
  omega
/-- gaps of small places are short -/
theorem deltaB_short {v : Nat} (h : v < 128) : (deltaB v).length ≤ 11 := by
  rw [deltaB_len]
  have h1 := log2_le (v := v) (k := 6) zO
  have h2 := log2_le (v := v.log2 + 1) (k := 2) zO
  omega
theorem gaps_short : ∀ (b : Nat) (ps : List Nat), (∀ p ∈ ps, p < 127) → (gapsP b ps).length ≤ 11 * ps.length
  | _, [], _ => by simp [gapsP]
  | b, p :: ps, h => by
    have ih := gaps_short (p + 1) ps fun q hq => h q (List.mem_cons_of_mem _ hq)
    have hp := h p List.mem_cons_self
    have hd := deltaB_short (v := p + 1 - b) zO
    have e : gapsP b (p :: ps) = deltaB (p + 1 - b) ++ gapsP (p + 1) ps := rfl
    rw [e, List.length_append, List.length_cons]
    omega
/-- reading one of Elias' codes: the zeros, the bit behind them, the two numbers -/
theorem delta_read {pre post : List Bool} {v : Nat} (hv : v ≠ 0) :
    (∀ i, i < (v.log2 + 1).log2 → (pre ++ (deltaB v ++ post))[pre.length + i]? = some false) ∧
    (pre ++ (deltaB v ++ post))[pre.length + (v.log2 + 1).log2]? = some true ∧
    (∀ i, i < (v.log2 + 1).log2 + 1 → (pre ++ (deltaB v ++ post))[pre.length + (v.log2 + 1).log2 + i]? = some ((v.log2 + 1).testBit ((v.log2 + 1).log2 - i))) ∧
    (∀ i, i < v.log2 → (pre ++ (deltaB v ++ post))[pre.length + 2 * (v.log2 + 1).log2 + 1 + i]? = some (v.testBit (v.log2 - 1 - i))) := by
  have hg := gammaB_len (v.log2 + 1)
  have hat : ∀ i, i < (deltaB v).length → (pre ++ (deltaB v ++ post))[pre.length + i]? = (deltaB v)[i]? := fun i hi => by
    rw [List.getElem?_append_right zO, Nat.add_sub_cancel_left, List.getElem?_append_left hi]
  have hl := deltaB_len v
  have hga : ∀ i, i < 2 * (v.log2 + 1).log2 + 1 → (deltaB v)[i]? = (gammaB (v.log2 + 1))[i]? := fun i hi => by
    unfold deltaB
    rw [List.getElem?_append_left zO]
  refine ⟨fun i hi => ?_, ?_, fun i hi => ?_, fun i hi => ?_⟩
  · rw [hat i zO, hga i zO, gammaB_zero hi]
  · rw [hat _ zO, hga _ zO, gammaB_one zO]
  · rw [Nat.add_assoc, hat _ zO, hga _ zO]
    unfold gammaB
    rw [List.getElem?_append_right (by rw [List.length_replicate]; omega), List.length_replicate, Nat.add_sub_cancel_left, bitsOf_get hi]
    congr 2
  · rw [show pre.length + 2 * (v.log2 + 1).log2 + 1 + i = pre.length + (2 * (v.log2 + 1).log2 + 1 + i) by omega, hat _ zO]
    unfold deltaB
    rw [List.getElem?_append_right zO, hg, Nat.add_sub_cancel_left, bitsOf_get hi]
end Go.Proofs.YtecogbhbkccblaaGreatDoor
namespace Go.Proofs.YtecogbhbkccblaaGreatDoor

def uni : List Nat → List Nat → List Nat
  | [], b => b
  | a :: l, [] => a :: l
  | a :: l, b :: m => if a < b then a :: uni l (b :: m) else if b < a then b :: uni (a :: l) m else a :: uni l m
termination_by l m => l.length + m.length
theorem uni_nil (l : List Nat) : uni l [] = l := by cases l <;> simp [uni]
theorem uni_nil' (l : List Nat) : uni [] l = l := by simp [uni]
theorem uni_cons (a b : Nat) (l m : List Nat) : uni (a :: l) (b :: m) = if a < b then a :: uni l (b :: m) else if b < a then b :: uni (a :: l) m else a :: uni l m := by rw [uni]
theorem uni_mem : ∀ (l m : List Nat) {x : Nat}, x ∈ uni l m ↔ x ∈ l ∨ x ∈ m
  | [], m, x => by rw [uni_nil']; simp
  | a :: l, [], x => by rw [uni_nil]; simp
  | a :: l, b :: m, x => by
    rw [uni_cons]
    rcases Nat.lt_trichotomy a b with h | h | h
    · rw [if_pos h, List.mem_cons, uni_mem l (b :: m), List.mem_cons, List.mem_cons, or_assoc]
    · subst h
      rw [if_neg zO, if_neg zO, List.mem_cons, uni_mem l m, List.mem_cons, List.mem_cons]
      constructor
      · rintro (h | h | h)
        · exact .inl (.inl h)
        · exact .inl (.inr h)
        · exact .inr (.inr h)
      · rintro ((h | h) | (h | h))
        · exact .inl h
        · exact .inr (.inl h)
        · exact .inl h
        · exact .inr (.inr h)
    · rw [if_neg zO, if_pos h, List.mem_cons, uni_mem (a :: l) m, List.mem_cons, List.mem_cons]
      constructor
      · rintro (h | h | h)
        · exact .inr (.inl h)
        · exact .inl h
        · exact .inr (.inr h)
      · rintro (h | h | h)
        · exact .inr (.inl h)
        · exact .inl h
        · exact .inr (.inr h)
termination_by l m => l.length + m.length
theorem uni_pw : ∀ (l m : List Nat), l.Pairwise (· < ·) → m.Pairwise (· < ·) → (uni l m).Pairwise (· < ·)
  | [], m, _, hm => by rw [uni_nil']; exact hm
  | a :: l, [], hl, _ => by rw [uni_nil]; exact hl
  | a :: l, b :: m, hl, hm => by
    have hl' := List.pairwise_cons.1 hl
    have hm' := List.pairwise_cons.1 hm
    rw [uni_cons]
    rcases Nat.lt_trichotomy a b with h | h | h
    · rw [if_pos h]
      refine List.pairwise_cons.2 ⟨fun x hx => ?_, uni_pw l (b :: m) hl'.2 hm⟩
      rcases (uni_mem _ _).1 hx with hx | hx
      · exact hl'.1 x hx
      · rcases List.mem_cons.1 hx with rfl | hx
        · exact h
        · exact Nat.lt_trans h (hm'.1 x hx)
    · subst h
      rw [if_neg zO, if_neg zO]
      refine List.pairwise_cons.2 ⟨fun x hx => ?_, uni_pw l m hl'.2 hm'.2⟩
      rcases (uni_mem _ _).1 hx with hx | hx
      · exact hl'.1 x hx
      · exact hm'.1 x hx
    · rw [if_neg zO, if_pos h]
      refine List.pairwise_cons.2 ⟨fun x hx => ?_, uni_pw (a :: l) m hl hm'.2⟩
      rcases (uni_mem _ _).1 hx with hx | hx
      · rcases List.mem_cons.1 hx with rfl | hx
        · exact h
        · exact Nat.lt_trans h (hl'.1 x hx)
      · exact hm'.1 x hx
termination_by l m => l.length + m.length
theorem pw_ext : ∀ {l m : List Nat}, l.Pairwise (· < ·) → m.Pairwise (· < ·) → (∀ x, x ∈ l ↔ x ∈ m) → l = m
  | [], [], _, _, _ => rfl
  | [], b :: m, _, _, h => by have := (h b).2 List.mem_cons_self; cases this
  | a :: l, [], _, _, h => by have := (h a).1 List.mem_cons_self; cases this
  | a :: l, b :: m, hl, hm, h => by
    have hl' := List.pairwise_cons.1 hl
    have hm' := List.pairwise_cons.1 hm
    have hab : a = b := by
      have h1 : a ≤ b := by
        rcases List.mem_cons.1 ((h b).2 List.mem_cons_self) with e | hb
        · omega
        · have := hl'.1 b hb; omega
      have h2 : b ≤ a := by
        rcases List.mem_cons.1 ((h a).1 List.mem_cons_self) with e | ha
        · omega
        · have := hm'.1 a ha; omega
      omega
    subst hab
    congr 1
    refine pw_ext hl'.2 hm'.2 fun x => ⟨fun hx => ?_, fun hx => ?_⟩
    · rcases List.mem_cons.1 ((h x).1 (List.mem_cons_of_mem _ hx)) with e | hx2
      · have := hl'.1 x hx; omega
      · exact hx2
    · rcases List.mem_cons.1 ((h x).2 (List.mem_cons_of_mem _ hx)) with e | hx2
      · have := hm'.1 x hx; omega
      · exact hx2
/-- the places of a number -/
def plN (ns : List Nat) (k : Nat) : List Nat := (List.range ns.length).filter fun i => decide (ns[i]?.getD 0 = k)
/-- the places of the numbers below k -/
def seN (ns : List Nat) (k : Nat) : List Nat := (List.range ns.length).filter fun i => decide (ns[i]?.getD 0 < k)
theorem plN_pw (ns : List Nat) (k : Nat) : (plN ns k).Pairwise (· < ·) := List.Pairwise.filter _ List.pairwise_lt_range
theorem seN_pw (ns : List Nat) (k : Nat) : (seN ns k).Pairwise (· < ·) := List.Pairwise.filter _ List.pairwise_lt_range
theorem plN_mem {ns : List Nat} {k i : Nat} : i ∈ plN ns k ↔ i < ns.length ∧ ns[i]?.getD 0 = k := by unfold plN; rw [List.mem_filter, List.mem_range]; simp
theorem seN_mem {ns : List Nat} {k i : Nat} : i ∈ seN ns k ↔ i < ns.length ∧ ns[i]?.getD 0 < k := by unfold seN; rw [List.mem_filter, List.mem_range]; simp
theorem seN_zero (ns : List Nat) : seN ns 0 = [] := by unfold seN; simp
theorem seN_succ (ns : List Nat) (k : Nat) : uni (seN ns k) (plN ns k) = seN ns (k + 1) := by
  refine pw_ext (uni_pw _ _ (seN_pw ns k) (plN_pw ns k)) (seN_pw ns (k + 1)) fun x => ?_
  rw [uni_mem, seN_mem, plN_mem, seN_mem]
  omega
theorem seN_all {ns : List Nat} {k : Nat} (h : ∀ v ∈ ns, v < k) : seN ns k = List.range ns.length := by
  unfold seN
  rw [List.filter_eq_self]
  intro i hi
  have hi := List.mem_range.1 hi
  rw [List.getElem?_eq_getElem hi]
  simpa using h _ (List.getElem_mem hi)
theorem plN_len (ns : List Nat) (k : Nat) : (plN ns k).length = ns.count k := by
  have key : ∀ n, n ≤ ns.length → ((List.range n).filter fun i => decide (ns[i]?.getD 0 = k)).length = (ns.take n).count k := by
    intro n
    induction n with
    | zero => intro _; simp
    | succ n ih =>
      intro hn
      rw [List.range_succ, List.filter_append, List.length_append, ih zO, List.take_add_one, List.count_append, List.getElem?_eq_getElem (show n < ns.length by omega)]
      congr 1
      by_cases h : ns[n] = k
      · rw [List.filter_cons_of_pos (by rw [List.getElem?_eq_getElem (show n < ns.length by omega)]; simpa using h)]
        simp [h]
      · rw [List.filter_cons_of_neg (by rw [List.getElem?_eq_getElem (show n < ns.length by omega)]; simpa using h)]
        simp [List.count_cons, h]
  have := key ns.length (Nat.le_refl _)
  rw [List.take_length] at this
  exact this
end Go.Proofs.YtecogbhbkccblaaGreatDoor
namespace Go.Proofs.YtecogbhbkccblaaGreatDoor

theorem bl_irr : ∀ a : List UInt8, Op.bytesLess a a = false
  | [] => rfl
  | a :: u => by simp [Op.bytesLess, bl_irr u]
theorem bl_nil (a : List UInt8) : Op.bytesLess a [] = false := by cases a <;> rfl
theorem bl_cons {a b : UInt8} {u v : List UInt8} : Op.bytesLess (a :: u) (b :: v) = true ↔ a.toNat < b.toNat ∨ (a = b ∧ Op.bytesLess u v = true) := by
  simp only [Op.bytesLess, UInt8.lt_iff_toNat_lt]
  by_cases h1 : a.toNat < b.toNat
  · simp [h1]
  · by_cases h2 : a = b
    · subst h2; simp
    · simp [h1, h2]
theorem bl_trans : ∀ {a b c : List UInt8}, Op.bytesLess a b = true → Op.bytesLess b c = true → Op.bytesLess a c = true
  | _, [], _, h, _ => by rw [bl_nil] at h; cases h
  | _, _ :: _, [], _, h => by rw [bl_nil] at h; cases h
  | [], _ :: _, _ :: _, _, _ => rfl
  | a :: u, b :: v, c :: w, h1, h2 => by
    rw [bl_cons] at h1 h2 ⊢
    rcases h1 with h1 | ⟨rfl, h1⟩
    · rcases h2 with h2 | ⟨rfl, h2⟩
      · exact .inl zO
      · exact .inl h1
    · rcases h2 with h2 | ⟨rfl, h2⟩
      · exact .inl h2
      · exact .inr ⟨rfl, bl_trans h1 h2⟩
theorem bl_tri : ∀ a b : List UInt8, Op.bytesLess a b = true ∨ a = b ∨ Op.bytesLess b a = true
  | [], [] => .inr (.inl rfl)
  | [], _ :: _ => .inl rfl
  | _ :: _, [] => .inr (.inr rfl)
  | a :: u, b :: v => by
    rcases Nat.lt_trichotomy a.toNat b.toNat with h | h | h
    · exact .inl (bl_cons.2 (.inl h))
    · have : a = b := UInt8.toNat_inj.1 h
      subst this
      rcases bl_tri u v with h | h | h
      · exact .inl (bl_cons.2 (.inr ⟨rfl, h⟩))
      · exact .inr (.inl (by rw [h]))
      · exact .inr (.inr (bl_cons.2 (.inr ⟨rfl, h⟩)))
    · exact .inr (.inr (bl_cons.2 (.inl h)))
def blW (v w : ByteArray) : Bool := Op.bytesLess v.data.toList w.data.toList
theorem blW_irr (v : ByteArray) : blW v v = false := bl_irr _
theorem blW_trans {u v w : ByteArray} (h1 : blW u v = true) (h2 : blW v w = true) : blW u w = true := bl_trans h1 h2
theorem blW_tri (v w : ByteArray) : blW v w = true ∨ v = w ∨ blW w v = true := by
  rcases bl_tri v.data.toList w.data.toList with h | h | h
  · exact .inl h
  · refine .inr (.inl ?_)
    cases v; cases w
    congr 1
    exact Array.toList_inj.1 h
  · exact .inr (.inr h)
/-- words in order, each once -/
def WordsOk (ws : List ByteArray) : Prop := ws.Pairwise fun v w => blW v w = true
theorem words_lt {ws : List ByteArray} (h : WordsOk ws) {i j : Nat} (hi : i < ws.length) (hj : j < ws.length) : blW ws[i] ws[j] = true ↔ i < j := by
  constructor
  · intro hb
    rcases Nat.lt_trichotomy i j with h1 | h1 | h1
    · exact h1
    · subst h1; rw [blW_irr] at hb; cases hb
    · have := (List.pairwise_iff_getElem.1 h) j i hj hi h1
      have := blW_trans hb this
      rw [blW_irr] at this; cases this
  · intro h1
    exact (List.pairwise_iff_getElem.1 h) i j hi hj h1
theorem words_inj {ws : List ByteArray} (h : WordsOk ws) {i j : Nat} (hi : i < ws.length) (hj : j < ws.length) (he : ws[i] = ws[j]) : i = j := by
  rcases Nat.lt_trichotomy i j with h1 | h1 | h1
  · have := (words_lt h hi hj).2 h1
    rw [he, blW_irr] at this; cases this
  · exact h1
  · have := (words_lt h hj hi).2 h1
    rw [he, blW_irr] at this; cases this
end Go.Proofs.YtecogbhbkccblaaGreatDoor
namespace Go.Proofs.YtecogbhbkccblaaGreatDoor

/-- the room that the first n symbols take -/
def roomS (f : Nat → Nat) (n : Nat) : Nat := sumN (fun s => 2 ^ (15 - f s)) ((List.range n).filter fun s => decide (0 < f s))
theorem roomS_succ (f : Nat → Nat) (n : Nat) : roomS f (n + 1) = roomS f n + if 0 < f n then 2 ^ (15 - f n) else 0 := by
  unfold roomS
  rw [List.range_succ, List.filter_append, sumN_app]
  congr 1
  by_cases h : 0 < f n
  · rw [if_pos h, List.filter_cons_of_pos (by simpa using h)]; rfl
  · rw [if_neg h, List.filter_cons_of_neg (by simpa using h)]; rfl
theorem ordH_perm2 (n : Nat) (f : Nat → Nat) : (ordH n f).Perm ((List.range n).filter fun s => decide (0 < f s)) := stSort_permD (stS_ok _)
theorem roomS_ord {f : Nat → Nat} {n : Nat} (h : Ord f (ordH n f)) : roomS f n ≤ 2 ^ 15 := by
  have h1 := h.can.kr
  rw [sqQ_sum f _ _ (Nat.le_refl _), List.take_length, sumN_perm _ (ordH_perm2 n f)] at h1
  exact h1
theorem ordH_nodup (n : Nat) (f : Nat → Nat) : (ordH n f).Nodup := by
  refine (ordH_perm2 n f).nodup_iff.2 ?_
  exact (List.Pairwise.filter _ List.pairwise_lt_range).imp fun {a b} h e => by subst e; omega
theorem ordH_len (n : Nat) (f : Nat → Nat) : (ordH n f).length ≤ n := by
  rw [(ordH_perm2 n f).length_eq]
  have := List.length_filter_le (fun s => decide (0 < f s)) (List.range n)
  rwa [List.length_range] at this
theorem idxOf_at {o : List Nat} (h : o.Nodup) {k : Nat} (hk : k < o.length) : o.idxOf o[k] = k := by
  have h1 : o[k] ∈ o := List.getElem_mem hk
  have h2 := List.idxOf_lt_length_of_mem h1
  have h3 : o[o.idxOf o[k]] = o[k] := List.getElem_idxOf h2
  exact (List.getElem_inj h).1 h3
/-- the codes by their symbols, the first k of them laid -/
def codesK (f : Nat → Nat) (o : List Nat) (n k : Nat) : List Nat := (List.range n).map fun s => if s ∈ o.take k then cdO f o (o.idxOf s) else 0
theorem codesK_len (f : Nat → Nat) (o : List Nat) (n k : Nat) : (codesK f o n k).length = n := by unfold codesK; simp
theorem codesK_zero (f : Nat → Nat) (o : List Nat) (n : Nat) : codesK f o n 0 = List.replicate n 0 := by
  unfold codesK
  simp only [List.take_zero, List.not_mem_nil, if_false]
  rw [List.map_const', List.length_range]
theorem codesK_succ {f : Nat → Nat} {o : List Nat} {n k : Nat} (ho : o.Nodup) (hk : k < o.length) (hn : o[k] < n) : codesK f o n (k + 1) = (codesK f o n k).set o[k] (cdO f o k) := by
  apply List.ext_getElem?
  intro i
  rw [List.getElem?_set]
  unfold codesK
  rw [List.getElem?_map, List.getElem?_map, List.length_map, List.length_range, List.take_add_one, List.getElem?_eq_getElem hk]
  rcases Nat.lt_or_ge i n with hi | hi
  · rw [List.getElem?_range hi]
    simp only [Option.map_some, Option.toList_some, List.mem_append, List.mem_singleton]
    by_cases e : o[k] = i
    · rw [if_pos e, if_pos hn, if_pos (Or.inr e.symm), ← e, idxOf_at ho hk]
    · rw [if_neg e]
      congr 1
      by_cases h1 : i ∈ o.take k
      · rw [if_pos h1, if_pos (Or.inl h1)]
      · rw [if_neg h1, if_neg (by rintro (h2 | h2); exact h1 h2; exact e h2.symm)]
  · rw [List.getElem?_eq_none (by simpa using hi)]
    rw [if_neg zO]
    rfl
theorem codesK_get {f : Nat → Nat} {o : List Nat} {n s : Nat} (hs : s < n) (hm : s ∈ o) : (codesK f o n o.length)[s]? = some (cdO f o (o.idxOf s)) := by
  unfold codesK
  rw [List.getElem?_map, List.getElem?_range hs, List.take_length]
  simp only [Option.map_some]
  rw [if_pos hm]
end Go.Proofs.YtecogbhbkccblaaGreatDoor
namespace Go.Proofs.YtecogbhbkccblaaGreatDoor

def syK (f : Nat → Nat) (o : List Nat) (k n : Nat) : List Nat := (o.take k).filter fun s => decide (f s = n)
def fiK (f : Nat → Nat) (o : List Nat) (k n : Nat) : Nat := if (syK f o k n).length = 0 then 0 else cdO f o (loO f o n)
theorem syK_all (f : Nat → Nat) (o : List Nat) (n : Nat) : syK f o o.length n = syO f o n := by unfold syK syO; rw [List.take_length]
theorem fiK_all (f : Nat → Nat) (o : List Nat) (n : Nat) : fiK f o o.length n = fiO f o n := by unfold fiK fiO; rw [syK_all]
theorem syK_succ {f : Nat → Nat} {o : List Nat} {k : Nat} (hk : k < o.length) (n : Nat) : syK f o (k + 1) n = syK f o k n ++ if f o[k] = n then [o[k]] else [] := by
  unfold syK
  rw [List.take_add_one, List.getElem?_eq_getElem hk, Option.toList_some, List.filter_append]
  congr 1
  by_cases h : f o[k] = n
  · rw [if_pos h, List.filter_cons_of_pos (by simpa using h)]; rfl
  · rw [if_neg h, List.filter_cons_of_neg (by simpa using h)]; rfl
/-- the first of its length -/
theorem lo_first {f : Nat → Nat} {o : List Nat} (h : Ord f o) {k : Nat} (hk : k < o.length) (h0 : (syK f o k (f o[k])).length = 0) : loO f o (f o[k]) = k := by
  have hg : o[k]?.getD 0 = o[k] := by rw [List.getElem?_eq_getElem hk]; rfl
  have hp := sy_pos h hk
  rw [hg] at hp
  rcases Nat.lt_or_eq_of_le hp.1 with h1 | h1
  · exfalso
    have hs := sy_get h (f o[k]) (t := 0) zO
    rw [Nat.add_zero] at hs
    have hlt := hs.2.1
    have hf := hs.2.2
    rw [List.getElem?_eq_getElem hlt, Option.getD_some] at hf
    have hm : o[loO f o (f o[k])] ∈ syK f o k (f o[k]) := by
      unfold syK
      refine List.mem_filter.2 ⟨?_, by simpa using hf⟩
      exact List.mem_take_iff_getElem.2 ⟨loO f o (f o[k]), by omega, rfl⟩
    have := List.length_pos_iff.2 (List.ne_nil_of_mem hm)
    omega
  · exact h1
theorem fiK_succ {f : Nat → Nat} {o : List Nat} (h : Ord f o) {k : Nat} (hk : k < o.length) (n : Nat) :
    fiK f o (k + 1) n = if f o[k] = n ∧ (syK f o k n).length = 0 then cdO f o k else fiK f o k n := by
  unfold fiK
  rw [syK_succ hk]
  by_cases e : f o[k] = n
  · subst e
    by_cases h0 : (syK f o k (f o[k])).length = 0
    · have h1 := List.eq_nil_of_length_eq_zero h0
      simp [h1, lo_first h hk h0]
    · have h1 : syK f o k (f o[k]) ≠ [] := fun hh => h0 (by rw [hh]; rfl)
      simp [h1]
  · simp [e]
end Go.Proofs.YtecogbhbkccblaaGreatDoor
namespace Go.Proofs.YtecogbhbkccblaaGreatDoor

/-- words and their numbers: each value is the word of its number -/
structure LexOk (vs ws : List ByteArray) (ns : List Nat) : Prop where
  ok : WordsOk ws
  mem : ∀ w, w ∈ ws ↔ w ∈ vs
  len : ns.length = vs.length
  num : ∀ i, i < vs.length → ws[ns[i]?.getD 0]? = vs[i]?
theorem LexOk.lt {vs ws : List ByteArray} {ns : List Nat} (h : LexOk vs ws ns) {n : Nat} (hn : n ∈ ns) : n < ws.length := by
  obtain ⟨i, hi, rfl⟩ := List.getElem_of_mem hn
  have := h.num i (by rw [← h.len]; exact hi)
  rw [List.getElem?_eq_getElem hi, Option.getD_some, List.getElem?_eq_getElem (show i < vs.length by rw [← h.len]; exact hi)] at this
  rcases Nat.lt_or_ge ns[i] ws.length with h1 | h1
  · exact h1
  · rw [List.getElem?_eq_none h1] at this; cases this
/-- how often a word stands is how often its number does -/
theorem LexOk.count {vs ws : List ByteArray} {ns : List Nat} (h : LexOk vs ws ns) {n : Nat} (hn : n < ws.length) : vs.countP (fun v => decide (v = ws[n])) = ns.count n := by
  have key : ∀ m, m ≤ vs.length → (vs.take m).countP (fun v => decide (v = ws[n])) = (ns.take m).count n := by
    intro m
    induction m with
    | zero => intro _; simp
    | succ m ih =>
      intro hm
      have hmn : m < ns.length := by rw [h.len]; omega
      have hmv : m < vs.length := by omega
      have hx := h.num m hmv
      rw [List.getElem?_eq_getElem hmn, Option.getD_some, List.getElem?_eq_getElem hmv] at hx
      have hlt := h.lt (List.getElem_mem hmn)
      rw [List.getElem?_eq_getElem hlt] at hx
      have hx := Option.some.inj hx
      rw [List.take_add_one, List.take_add_one, List.countP_append, List.count_append, ih zO, List.getElem?_eq_getElem hmn, List.getElem?_eq_getElem hmv]
      congr 1
      simp only [Option.toList_some, List.countP_singleton, List.count_singleton]
      by_cases e : ns[m] = n
      · subst e
        simp [hx]
      · have : vs[m] ≠ ws[n] := fun hh => e (words_inj h.ok hlt hn (by rw [hx, hh]))
        simp [e, this]
  have := key vs.length (Nat.le_refl _)
  rw [List.take_length, ← h.len, List.take_length] at this
  exact this
end Go.Proofs.YtecogbhbkccblaaGreatDoor
namespace Go.Proofs.YtecogbhbkccblaaGreatDoor

def tabF (n : Nat) (g : Nat → Nat) : List Nat := (List.range n).map g
theorem tabF_len (n : Nat) (g : Nat → Nat) : (tabF n g).length = n := by unfold tabF; simp
theorem tabF_get {n : Nat} (g : Nat → Nat) {i : Nat} (h : i < n) : (tabF n g)[i]? = some (g i) := by
  unfold tabF
  rw [List.getElem?_map, List.getElem?_range h]; rfl
theorem tabF_zero (n : Nat) : tabF n (fun _ => 0) = List.replicate n 0 := by unfold tabF; rw [List.map_const', List.length_range]
theorem tabF_congr {n : Nat} {g h : Nat → Nat} (e : ∀ i, i < n → g i = h i) : tabF n g = tabF n h := by
  unfold tabF
  exact List.map_congr_left fun i hi => e i (List.mem_range.1 hi)
theorem tabF_set {n : Nat} (g : Nat → Nat) (s v : Nat) : (tabF n g).set s v = tabF n (fun i => if i = s then v else g i) := by
  apply List.ext_getElem?
  intro i
  rw [List.getElem?_set, tabF_len]
  rcases Nat.lt_or_ge i n with hi | hi
  · rw [tabF_get _ hi, tabF_get _ hi]
    by_cases e : s = i
    · subst e; rw [if_pos rfl, if_pos hi, if_pos rfl]
    · rw [if_neg e, if_neg (fun h => e h.symm)]
  · rw [List.getElem?_eq_none (by rw [tabF_len]; exact hi), List.getElem?_eq_none (by rw [tabF_len]; exact hi)]
    by_cases e : s = i
    · rw [if_pos e, if_neg zO]
    · rw [if_neg e]
/-- counting values -/
theorem cnt_step {n : Nat} {ns : List Nat} {i : Nat} (hi : i < ns.length) : tabF n (fun s => if s = ns[i] then (ns.take i).count ns[i] + 1 else (ns.take i).count s) = tabF n (fun s => (ns.take (i + 1)).count s) := by
  refine tabF_congr fun s _ => ?_
  rw [List.take_add_one, List.getElem?_eq_getElem hi, Option.toList_some, List.count_append, List.count_singleton]
  by_cases e : s = ns[i]
  · subst e; simp
  · have : ¬ ns[i] = s := fun h => e h.symm
    simp [e, this]
theorem cntsS_tab (ns : List Nat) : cntsS ns = tabF (mxS ns) (fun s => ns.count s) := rfl
/-- counting the leaves that are taken -/
theorem len_step {T : List Hi} {i : Nat} (hi : i < T.length) (s : Nat) : (T.take (i + 1)).countP (fun x => decide (x.s = (s : Int))) = (T.take i).countP (fun x => decide (x.s = (s : Int))) + if T[i].s = (s : Int) then 1 else 0 := by
  rw [List.take_add_one, List.getElem?_eq_getElem hi, Option.toList_some, List.countP_append, List.countP_singleton]
  congr 1
  by_cases e : T[i].s = (s : Int) <;> simp [e]
theorem pk_step {T : List Hi} {i : Nat} (hi : i < T.length) : pkN (T.take (i + 1)) = pkN (T.take i) + if T[i].leaf = true then 0 else 1 := by
  unfold pkN
  rw [List.take_add_one, List.getElem?_eq_getElem hi, Option.toList_some, List.countP_append, List.countP_singleton]
  congr 1
  by_cases e : T[i].leaf = true
  · simp [e]
  · simp [e]
end Go.Proofs.YtecogbhbkccblaaGreatDoor
namespace Go.Proofs.YtecogbhbkccblaaGreatDoor

theorem chunk_at (ns : List Nat) (i : Nat) : (chunk ns (i / 64))[i % 64]? = ns[i]? := by
  unfold chunk
  rw [List.getElem?_take_of_lt zO, List.getElem?_drop]
  congr 1
  omega
theorem chunk_in {ns : List Nat} {i : Nat} (h : i < ns.length) : i / 64 < (ns.length + 63) / 64 ∧ i % 64 < (chunk ns (i / 64)).length := by
  have h1 : i / 64 < (ns.length + 63) / 64 := by omega
  refine ⟨h1, ?_⟩
  rw [chunk_len ns h1]
  omega
theorem chunk_mem {ns : List Nat} {k v : Nat} (h : v ∈ chunk ns k) : v ∈ ns := List.mem_of_mem_drop (List.mem_of_mem_take h)
theorem chunks_len (ns : List Nat) : (chunks ns).length = (ns.length + 63) / 64 := by unfold chunks; simp
theorem chunks_get {ns : List Nat} {k : Nat} (h : k < (ns.length + 63) / 64) : (chunks ns)[k]? = some (chunk ns k) := by
  unfold chunks
  rw [List.getElem?_map, List.getElem?_range h]; rfl
theorem chunks_take {ns : List Nat} {k : Nat} (h : k < (ns.length + 63) / 64) : ((chunks ns).take (k + 1)) = (chunks ns).take k ++ [chunk ns k] := by
  rw [List.take_add_one, chunks_get h]; rfl
end Go.Proofs.YtecogbhbkccblaaGreatDoor
namespace Go.Proofs.YtecogbhbkccblaaGreatDoor

section
variable {α : Type} {key : α → Int}
/-- the same elements of each key, in one order -/
def FEq (key : α → Int) (l m : List α) : Prop := ∀ k : Int, m.filter (fun a => decide (key a = k)) = l.filter (fun a => decide (key a = k))
theorem FEq.refl (l : List α) : FEq key l l := fun _ => rfl
theorem FEq.trans {l m n : List α} (h : FEq key l m) (h' : FEq key m n) : FEq key l n := fun k => (h' k).trans (h k)
theorem FEq.mid {M M' : List α} (h : FEq key M M') (P Q : List α) : FEq key (P ++ (M ++ Q)) (P ++ (M' ++ Q)) := fun k => by
  simp only [List.filter_append]; rw [h k]
theorem FEq.len {l m : List α} (h : FEq key l m) : m.length = l.length := filt_len l.length (Nat.le_refl _) h
theorem FEq.mem {l m : List α} (h : FEq key l m) {a : α} : a ∈ m ↔ a ∈ l := filt_mem h
theorem FEq.mrg {X Y : List α} (hx : KSorted key X) (hy : KSorted key Y) : FEq key (X ++ Y) (mrg key X Y) := (mrg_stSort hx hy).2
theorem FEq.stS (l : List α) : FEq key l (stS key l) := (stS_ok l).2
theorem mrg_len (X Y : List α) (hx : KSorted key X) (hy : KSorted key Y) : (mrg key X Y).length = X.length + Y.length := by
  rw [(FEq.mrg hx hy).len, List.length_append]
theorem stS_len (l : List α) : (stS key l).length = l.length := (FEq.stS l).len
/-- each block of B elements from lo on is sorted -/
def BlkS (key : α → Int) (B lo hi : Nat) (l : List α) : Prop := ∀ j, lo ≤ j * B → j * B < hi → KSorted key ((l.drop (j * B)).take B)
/-- a part of a list is changed in its place -/
def putM (d : List α) (a b : Nat) (M : List α) : List α := d.take a ++ (M ++ d.drop b)
theorem putM_len {d : List α} {a b : Nat} {M : List α} (hab : a ≤ b) (hb : b ≤ d.length) (hM : M.length = b - a) : (putM d a b M).length = d.length := by
  unfold putM; rw [List.length_append, List.length_append, List.length_take, List.length_drop, hM]; omega
theorem putM_below {d : List α} {a b p q : Nat} {M : List α} (hab : a ≤ b) (hb : b ≤ d.length) (hp : p + q ≤ a) : ((putM d a b M).drop p).take q = (d.drop p).take q := by
  unfold putM
  rw [List.drop_append_of_le_length (by rw [List.length_take]; omega), List.take_append_of_le_length (by rw [List.length_drop, List.length_take]; omega), List.drop_take, List.take_take]
  congr 1; omega
theorem putM_above {d : List α} {a b p : Nat} {M : List α} (hab : a ≤ b) (hb : b ≤ d.length) (hM : M.length = b - a) (hp : b ≤ p) : (putM d a b M).drop p = d.drop p := by
  unfold putM
  rw [← List.append_assoc, List.drop_append, List.drop_of_length_le (by rw [List.length_append, List.length_take]; omega), List.nil_append, List.drop_drop]
  congr 1
  rw [List.length_append, List.length_take]; omega
theorem putM_at {d : List α} {a b q : Nat} {M : List α} (hab : a ≤ b) (hb : b ≤ d.length) (hM : M.length = b - a) (hq : b - a ≤ q) (hq2 : b - a = q ∨ b = d.length) : ((putM d a b M).drop a).take q = M := by
  unfold putM
  rw [List.drop_append_of_le_length (by rw [List.length_take]; omega), List.drop_of_length_le (by rw [List.length_take]; omega), List.nil_append]
  rcases hq2 with h | h
  · rw [← h, ← hM, List.take_left]
  · rw [List.drop_of_length_le zO, List.append_nil, List.take_of_length_le zO]
theorem putM_feq {d : List α} {a b : Nat} {M : List α} (hab : a ≤ b) (h : FEq key ((d.drop a).take (b - a)) M) : FEq key d (putM d a b M) := by
  have h1 := h.mid (d.take a) (d.drop b)
  have h2 : d.take a ++ ((d.drop a).take (b - a) ++ d.drop b) = d := by
    have : d.drop b = (d.drop a).drop (b - a) := by rw [List.drop_drop]; congr 1; omega
    rw [this, List.take_append_drop, List.take_append_drop]
  rwa [h2] at h1
/-- one block more is sorted -/
theorem BlkS.step {d : List α} {B a b : Nat} {M : List α} (h : BlkS key B 0 a d) (hB : 0 < B) (ha : ∃ i, a = i * B) (hab : a ≤ b) (hb : b ≤ d.length) (hM : M.length = b - a) (hq : b = a + B ∨ (b = d.length ∧ b ≤ a + B)) (hs : KSorted key M) : BlkS key B 0 b (putM d a b M) := by
  obtain ⟨i, rfl⟩ := ha
  intro j _ hj
  rcases Nat.lt_trichotomy j i with hlt | rfl | hgt
  · have : (j + 1) * B ≤ i * B := Nat.mul_le_mul_right _ hlt
    rw [Nat.add_mul, Nat.one_mul] at this
    rw [putM_below hab hb this]
    exact h j (Nat.zero_le _) zO
  · rw [putM_at hab hb hM zO zO]; exact hs
  · have : (i + 1) * B ≤ j * B := Nat.mul_le_mul_right _ hgt
    rw [Nat.add_mul, Nat.one_mul] at this
    omega
/-- what is not reached stays -/
theorem BlkS.rest {d : List α} {B a b hi : Nat} {M : List α} (h : BlkS key B a hi d) (hab : a ≤ b) (hb : b ≤ d.length) (hM : M.length = b - a) : BlkS key B b hi (putM d a b M) := by
  intro j hj hj2
  rw [putM_above hab hb hM hj]
  exact h j zO hj2
theorem BlkS.all {d : List α} {B : Nat} (h : BlkS key B 0 d.length d) (hB : d.length ≤ B) : KSorted key d := by
  by_cases h0 : d.length = 0
  · rw [List.eq_nil_of_length_eq_zero h0]; exact List.Pairwise.nil
  · have := h 0 (Nat.zero_le _) zO
    rw [Nat.zero_mul, List.drop_zero, List.take_of_length_le hB] at this
    exact this
theorem BlkS.at {d : List α} {B lo hi a : Nat} (h : BlkS key B lo hi d) (ha : ∃ i, a = i * B) (h1 : lo ≤ a) (h2 : a < hi) {q : Nat} (hq : q ≤ B) : KSorted key ((d.drop a).take q) := by
  obtain ⟨i, rfl⟩ := ha
  have := h i h1 h2
  rw [show q = min q B by omega, ← List.take_take]
  exact List.Pairwise.sublist (List.take_sublist _ _) this
end
end Go.Proofs.YtecogbhbkccblaaGreatDoor
namespace Go.Proofs.YtecogbhbkccblaaGreatDoor

theorem byteB_false (bs : List Bool) (i : Nat) : byteB (bs ++ [false]) i = byteB bs i := by
  unfold byteB
  have h : ∀ j, gB (bs ++ [false]) j = gB bs j := fun j => by
    rw [gB_new]
    split
    · rename_i e; rw [e, gB_over (Nat.le_refl _)]
    · rfl
  simp only [h]
theorem byteB_zero {bs : List Bool} {i : Nat} (h : bs.length ≤ 8 * i) : byteB bs i = 0 := by
  unfold byteB
  simp only [gB_over (show bs.length ≤ 8 * i + 0 by omega), gB_over (show bs.length ≤ 8 * i + 1 by omega), gB_over (show bs.length ≤ 8 * i + 2 by omega), gB_over (show bs.length ≤ 8 * i + 3 by omega), gB_over (show bs.length ≤ 8 * i + 4 by omega), gB_over (show bs.length ≤ 8 * i + 5 by omega), gB_over (show bs.length ≤ 8 * i + 6 by omega), gB_over (show bs.length ≤ 8 * i + 7 by omega)]
  rfl
theorem packB_false (bs : List Bool) : packB (bs ++ [false]) = if bs.length % 8 = 0 then packB bs ++ [0] else packB bs := by
  unfold packB
  rw [List.length_append, List.length_singleton]
  split
  · rename_i h
    rw [show (bs.length + 1 + 7) / 8 = (bs.length + 7) / 8 + 1 by omega, List.range_succ, List.map_append]
    congr 1
    · exact List.map_congr_left fun i _ => byteB_false bs i
    · rw [List.map_singleton, byteB_false, byteB_zero zO]
  · rename_i h
    rw [show (bs.length + 1 + 7) / 8 = (bs.length + 7) / 8 by omega]
    exact List.map_congr_left fun i _ => byteB_false bs i
theorem packB_true (bs : List Bool) : packB (bs ++ [true]) = (packB (bs ++ [false])).set (bs.length / 8) (byteB bs (bs.length / 8) ||| (128 >>> (bs.length % 8))) := by
  refine List.ext_getElem? fun i => ?_
  have hl : ∀ b : Bool, ((bs ++ [b]).length + 7) / 8 = bs.length / 8 + 1 := fun b => by rw [List.length_append, List.length_singleton]; omega
  rw [List.getElem?_set, packB_len, hl]
  by_cases hi : i < bs.length / 8 + 1
  · rw [packB_get (by rw [hl]; exact hi)]
    by_cases h : bs.length / 8 = i
    · subst h
      rw [if_pos rfl, if_pos hi, byteB_new, if_pos rfl]
    · rw [if_neg h, packB_get (by rw [hl]; exact hi), byteB_old (fun e => h e.symm), byteB_false]
  · rw [if_neg zO, List.getElem?_eq_none (by rw [packB_len, hl]; omega), List.getElem?_eq_none (by rw [packB_len, hl]; omega)]
theorem packB_last (bs : List Bool) : (packB (bs ++ [false]))[bs.length / 8]? = some (byteB bs (bs.length / 8)) := by
  rw [packB_get (by rw [List.length_append, List.length_singleton]; omega), byteB_false]
theorem packB_bit {bs : List Bool} {at_ : Nat} (h : at_ < bs.length) : (packB bs)[at_ / 8]? = some (byteB bs (at_ / 8)) := packB_get zO
end Go.Proofs.YtecogbhbkccblaaGreatDoor
namespace Go.Proofs.YtecogbhbkccblaaGreatDoor

section
variable {α : Type}
theorem adj_get (L R : List α) (x y : α) : (L ++ x :: y :: R)[L.length]? = some x ∧ (L ++ x :: y :: R)[L.length + 1]? = some y := by
  refine ⟨get_mid _ _ _, ?_⟩
  have := get_mid (L ++ [x]) R y
  rw [List.length_append, List.length_singleton, List.append_assoc] at this
  exact this
theorem adj_up (L R : List α) (x y : α) : ((L ++ x :: y :: R).set L.length y).set (L.length + 1) x = L ++ y :: x :: R := by
  rw [set_mid]
  have := set_mid (L ++ [y]) R y x
  rw [List.length_append, List.length_singleton, List.append_assoc, List.append_assoc] at this
  exact this
theorem adj_dn (L R : List α) (x y : α) : ((L ++ x :: y :: R).set (L.length + 1) x).set L.length y = L ++ y :: x :: R := by
  have := set_mid (L ++ [x]) R y x
  rw [List.length_append, List.length_singleton, List.append_assoc, List.append_assoc] at this
  rw [show L ++ x :: y :: R = L ++ ([x] ++ y :: R) from rfl, this]
  exact set_mid L (x :: R) x y
end
section
variable {α : Type} {key : α → Int}
/-- one more element is laid into a sorted list -/
theorem ins_step {M S : List α} {i : Nat} {x : α} (hx : M[i]? = some x) (hS : KSorted key S) (hf : FEq key (M.take i) S) : KSorted key (mrg key S [x]) ∧ FEq key (M.take (i + 1)) (mrg key S [x]) := by
  have h1 : KSorted key [x] := List.pairwise_singleton _ _
  refine ⟨mrg_sorted _ _ hS h1, ?_⟩
  rw [List.take_add_one, hx]
  have h2 := hf.mid [] [x]
  rw [List.nil_append, List.nil_append] at h2
  exact h2.trans (FEq.mrg hS h1)
theorem ins_end {M S : List α} (hS : KSorted key S) (hf : FEq key M S) : S = stS key M := StSort.is ⟨hS, hf⟩
end
theorem getX {α : Type} (P X R : List α) {q : Nat} (h : q < X.length) : (P ++ (X ++ R))[P.length + q]? = some X[q] := by
  rw [List.getElem?_append_right zO, Nat.add_sub_cancel_left, List.getElem?_append_left h, List.getElem?_eq_getElem h]
theorem getY {α : Type} (P X Y Q : List α) {q : Nat} (h : q < Y.length) : (P ++ (X ++ (Y ++ Q)))[P.length + X.length + q]? = some Y[q] := by
  have := getX (P ++ X) Y Q h
  rw [List.length_append, List.append_assoc] at this
  exact this
end Go.Proofs.YtecogbhbkccblaaGreatDoor
namespace Go.Proofs.YtecogbhbkccblaaGreatDoor

section
variable {α : Type} {key : α → Int}
theorem cutD (d : List α) {a b : Nat} (hab : a ≤ b) : d = d.take a ++ ((d.drop a).take (b - a) ++ d.drop b) := by
  have : d.drop b = (d.drop a).drop (b - a) := by rw [List.drop_drop]; congr 1; omega
  rw [this, List.take_append_drop, List.take_append_drop]
theorem BlkS.last {d : List α} {B a : Nat} (h : BlkS key (B * 2) 0 a d) (h2 : BlkS key B a d.length d) (ha : ∃ i, a = i * (B * 2)) (hl : d.length ≤ a + B) : BlkS key (B * 2) 0 d.length d := by
  intro j _ hj
  by_cases h1 : j * (B * 2) < a
  · exact h j (Nat.zero_le _) h1
  · obtain ⟨i, rfl⟩ := ha
    have hij : i ≤ j := by
      rcases Nat.lt_or_ge j i with h3 | h3
      · have := Nat.mul_le_mul_right (B * 2) h3
        rw [Nat.succ_mul] at this
        rcases Nat.eq_zero_or_pos B with h0 | h0
        · subst h0; omega
        · omega
      · exact h3
    have hp : ((d.drop (j * (B * 2))).take (B * 2)) = ((d.drop (j * (B * 2))).take B) := by
      rw [List.take_of_length_le (by rw [List.length_drop]; omega), List.take_of_length_le (by rw [List.length_drop]; omega)]
    rw [hp]
    have := h2 (j * 2) (by rw [show j * 2 * B = j * (B * 2) by rw [Nat.mul_assoc, Nat.mul_comm 2 B]]; omega) (by rw [show j * 2 * B = j * (B * 2) by rw [Nat.mul_assoc, Nat.mul_comm 2 B]]; exact hj)
    rw [show j * 2 * B = j * (B * 2) by rw [Nat.mul_assoc, Nat.mul_comm 2 B]] at this
    exact this
theorem two_blocks (d : List α) (a B q : Nat) (hq : B ≤ q) : (d.drop a).take q = (d.drop a).take B ++ (d.drop (a + B)).take (q - B) := by
  have e : (d.drop (a + B)) = (d.drop a).drop B := by rw [List.drop_drop]
  have h1 := List.take_append_drop B ((d.drop a).take q)
  rw [List.take_take, Nat.min_eq_left hq, List.drop_take, ← e] at h1
  exact h1.symm
end
end Go.Proofs.YtecogbhbkccblaaGreatDoor
namespace Go.Proofs.YtecogbhbkccblaaGreatDoor

theorem lstH_le {L : List Hi} {W : Int} (h : LfOk L) (hW : ∀ x ∈ L, x.w ≤ W) (hW0 : 0 ≤ W) : ∀ k, ∀ x ∈ lstH L k, x.w ≤ W * 2 ^ k
  | 0, x, hx => by
    have := hW x hx
    rw [Int.pow_zero, Int.mul_one]; exact this
  | k + 1, x, hx => by
    have hp : (0 : Int) < 2 ^ k := Int.pow_pos zD
    have hWk : 0 ≤ W * 2 ^ k := Int.mul_nonneg hW0 (Int.le_of_lt hp)
    rcases List.mem_append.1 ((lstH_perm L k).mem_iff.1 hx) with h1 | h1
    · have := hW x h1
      have h2 : W * 1 ≤ W * 2 ^ (k + 1) := Int.mul_le_mul_of_nonneg_left (Int.pow_pos zD) hW0
      omega
    · obtain ⟨j, hj, rfl⟩ := List.mem_map.1 h1
      rw [List.mem_range] at hj
      have hg : ∀ i, i < (lstH L k).length → ((lstH L k)[i]?.getD hi0).w ≤ W * 2 ^ k := fun i hi => by
        rw [List.getElem?_eq_getElem hi]
        exact lstH_le h hW hW0 k _ (List.getElem_mem hi)
      have h2 := hg (2 * j) zO
      have h3 := hg (2 * j + 1) zO
      show ((lstH L k)[2 * j]?.getD hi0).w + ((lstH L k)[2 * j + 1]?.getD hi0).w ≤ W * 2 ^ (k + 1)
      rw [Int.pow_succ, ← Int.mul_assoc]
      omega
/-- the first packages -/
def pkgK (b : List Hi) (j : Nat) : List Hi := (List.range j).map (pkg b)
theorem pkgK_all (b : List Hi) : pkgK b (b.length / 2) = pkgs b := rfl
theorem pkgK_succ (b : List Hi) (j : Nat) : pkgK b (j + 1) = pkgK b j ++ [pkg b j] := by unfold pkgK; rw [List.range_succ, List.map_append]; rfl
theorem pkgK_len (b : List Hi) (j : Nat) : (pkgK b j).length = j := by unfold pkgK; simp
/-- the first leaves -/
def lvsK (c : List Nat) (i : Nat) : List Hi := (List.range i).filterMap fun i : Nat => if 0 < c[i]?.getD 0 then some ⟨((c[i]?.getD 0 : Nat) : Int), (i : Int), 0, 0⟩ else none
theorem lvsK_succ (c : List Nat) (i : Nat) : lvsK c (i + 1) = lvsK c i ++ (if 0 < c[i]?.getD 0 then [⟨((c[i]?.getD 0 : Nat) : Int), (i : Int), 0, 0⟩] else []) := by
  unfold lvsK
  rw [List.range_succ, List.filterMap_append]
  congr 1
  by_cases h : 0 < c[i]?.getD 0 <;> simp [h]
theorem lvsK_len (c : List Nat) (i : Nat) : (lvsK c i).length ≤ i := by
  have := List.length_filterMap_le (fun i : Nat => if 0 < c[i]?.getD 0 then some (⟨((c[i]?.getD 0 : Nat) : Int), (i : Int), 0, 0⟩ : Hi) else none) (List.range i)
  rw [List.length_range] at this
  exact this
theorem lvsK_mem {c : List Nat} {i : Nat} {x : Hi} (h : x ∈ lvsK c i) : ∃ j, j < i ∧ 0 < c[j]?.getD 0 ∧ x = ⟨((c[j]?.getD 0 : Nat) : Int), (j : Int), 0, 0⟩ := by
  obtain ⟨j, hj, he⟩ := List.mem_filterMap.1 h
  rw [List.mem_range] at hj
  split at he
  · rename_i h0
    exact ⟨j, hj, h0, (Option.some.inj he).symm⟩
  · cases he
end Go.Proofs.YtecogbhbkccblaaGreatDoor
namespace Go.Proofs.YtecogbhbkccblaaGreatDoor

theorem leavesH_len (c : List Nat) : (leavesH c).length ≤ c.length := by
  rw [(leavesH_perm c).length_eq]
  unfold lvsH
  have := List.length_filterMap_le (fun i : Nat => if 0 < c[i]?.getD 0 then some (⟨((c[i]?.getD 0 : Nat) : Int), (i : Int), 0, 0⟩ : Hi) else none) (List.range c.length)
  rwa [List.length_range] at this
theorem lstH_len2 (L : List Hi) : ∀ k, (lstH L k).length ≤ 2 * L.length
  | 0 => by show L.length ≤ _; omega
  | k + 1 => by rw [lstH_len]; have := lstH_len2 L k; omega
theorem leavesH_mem {c : List Nat} {x : Hi} (h : x ∈ leavesH c) : ∃ i, i < c.length ∧ 0 < c[i]?.getD 0 ∧ x = ⟨((c[i]?.getD 0 : Nat) : Int), (i : Int), 0, 0⟩ := lvsH_mem ((leavesH_perm c).mem_iff.1 h)
theorem lenS_le15 {c : List Nat} (s : Nat) : lenS (leavesH c) 14 s ≤ 15 := by
  by_cases h : ∃ x ∈ leavesH c, x.s = (s : Int)
  · obtain ⟨x, hx, hs⟩ := h
    rw [lenS_leaf 14 hx hs]
    exact lenH_le (leavesH_ok c) 14 hx
  · rw [lenS_none 14 fun x hx e => h ⟨x, hx, e⟩]
    exact Nat.zero_le _
theorem pkN_take {L : List Hi} (h : LfOk L) (k t : Nat) : 2 * pkN ((lstH L (k + 1)).take t) ≤ (lstH L k).length := by
  have h1 : pkN ((lstH L (k + 1)).take t) ≤ pkN (lstH L (k + 1)) := by
    unfold pkN
    exact (List.take_sublist _ _).countP_le
  have h2 : pkN (lstH L (k + 1)) = (lstH L k).length / 2 := by
    unfold pkN
    rw [(lstH_perm L k).countP_eq, List.countP_append, ← pkgs_len]
    have e1 : L.countP (fun x => !x.leaf) = 0 := by
      rw [List.countP_eq_zero]
      intro x hx
      rw [h.lf x hx]; simp
    have e2 : (pkgs (lstH L k)).countP (fun x => !x.leaf) = (pkgs (lstH L k)).length := by
      rw [List.countP_eq_length]
      intro x hx
      rw [pkgs_leaf hx]; rfl
    omega
  omega
theorem item_leaf {c : List Nat} {k : Nat} {x : Hi} (hx : x ∈ lstH (leavesH c) k) (h : 0 ≤ x.s) : ∃ i, i < c.length ∧ 0 < c[i]?.getD 0 ∧ x = ⟨((c[i]?.getD 0 : Nat) : Int), (i : Int), 0, 0⟩ :=
  leavesH_mem (lstH_leaf hx (by unfold Hi.leaf; exact decide_eq_true h))
def symS (T : List Hi) (s : Nat) : Nat := T.countP fun x => decide (x.s = (s : Int))
theorem symS_le {R : List (List Hi)} {s i : Nat} {T : List Hi} : symS (T.take i) s ≤ symS T s := (List.take_sublist _ _).countP_le
theorem tabF_inc {n : Nat} (g : Nat → Nat) {s : Nat} : (tabF n g).set s (g s + 1) = tabF n (fun i => g i + if (s : Int) = (i : Int) then 1 else 0) := by
  rw [tabF_set]
  refine tabF_congr fun i _ => ?_
  by_cases h : i = s
  · subst h; rw [if_pos rfl, if_pos rfl]
  · rw [if_neg h, if_neg zO]; rfl
/-- a code of one symbol at most -/
theorem one_lens {c : List Nat} (h : (leavesH c).length < 2) {s : Nat} (hs : s < c.length) : lensH c s = symS (leavesH c) s := by
  unfold lensH
  rw [if_pos h]
  have hsym := leavesH_sym (c := c) hs
  have hmem := fun x => leavesH_mem (c := c) (x := x)
  unfold symS
  match leavesH c, h, hsym, hmem with
  | [], _, hsym, _ =>
    by_cases h0 : 0 < c[s]?.getD 0
    · have := hsym h0
      simp at this
    · rw [if_neg h0]; rfl
  | [x], _, hsym, hmem =>
    obtain ⟨i, _, h1, rfl⟩ := hmem x List.mem_cons_self
    rw [List.countP_singleton]
    by_cases h0 : 0 < c[s]?.getD 0
    · have := hsym h0
      rw [List.mem_singleton] at this
      have e : (s : Int) = (i : Int) := congrArg Hi.s this
      rw [if_pos h0, if_pos (by dsimp only; rw [e]; simp)]
    · rw [if_neg h0, if_neg]
      intro e
      have e2 : (i : Int) = (s : Int) := by simpa using e
      have : i = s := by omega
      subst this
      exact h0 h1
/-- what is still to be counted -/
def restL (L : List Hi) (t s : Nat) : Nat → Nat
  | 0 => 0
  | k + 1 => sumR (fun T => symS T s) (runH L k t)
theorem restL_step (L : List Hi) (t s k : Nat) : restL L t s (k + 1) = symS ((lstH L k).take t) s + restL L (2 * pkN ((lstH L k).take t)) s k := by
  cases k with
  | zero => rfl
  | succ k => rfl
end Go.Proofs.YtecogbhbkccblaaGreatDoor
