/- Own layer: slices that are made and appended to; slices that are only read; ranges over functions. -/
import Derived.Test.YtceaicameojcaaaXL
import Derived.RangeFuncKeeps
import Derived.RangeFuncIn
namespace Go.Proofs.Ytceaicameojcaaa
open Go.RowKit

/-! ### slices of the call's own -/
/-- A slice that the walk owns: nil, or a row of its own. -/
def Vec (el sz : Nat) (v : Value) (lv : List (Nat × Obj)) (n : Nat) (xs : List Value) : Prop :=
  xs.length = n * sz ∧ (((∃ ad, v = .slice ad 0 0) ∧ lv = [] ∧ n = 0) ∨
    ∃ b cap cs, v = .slice (some ⟨b, 0, none⟩) n cap ∧ lv = [(b, .cells (List.toArray cs) el (0, 0))] ∧ n ≤ cap ∧ cap ≤ maxLen ∧ cs.length = cap * sz ∧ cs.take (n * sz) = xs)
theorem Vec.nil (el sz : Nat) : Vec el sz (.slice none 0 0) [] 0 [] := ⟨by simp, .inl ⟨⟨_, rfl⟩, rfl, rfl⟩⟩
theorem Vec.empty (el sz : Nat) (ad : Option Addr) : Vec el sz (.slice ad 0 0) [] 0 [] := ⟨by simp, .inl ⟨⟨_, rfl⟩, rfl, rfl⟩⟩
theorem run_firstCells0 {P : Program} {sz : Nat} {ad : Option Addr} {n cap : Nat} {w : World} : (Builtin.firstCells sz 0 (.slice ad n cap)).run P w = .ok #[] w := by
  cases ad <;> simp [Builtin.firstCells, loadCells, loadCellsFrom]
theorem Vec.val {el sz : Nat} {v : Value} {lv : List (Nat × Obj)} {n : Nat} {xs : List Value} (h : Vec el sz v lv n xs) : ∃ ad cap, v = .slice ad n cap := by
  rcases h.2 with ⟨⟨ad, rfl⟩, _, rfl⟩ | ⟨b, cap, cs, rfl, _⟩
  · exact ⟨_, _, rfl⟩
  · exact ⟨_, _, rfl⟩

class ElOf (P : Program) (el : TypeId) (sz bytes : outParam Nat) : Prop where
  h : ∃ (i : TypeInfo) (z : Value), P.info? el = some i ∧ i.zero = some z ∧ i.size = sz ∧ i.bytes = bytes ∧ z.cells.size = sz ∧ 0 < sz
theorem elOf_mk {P : Program} {el : TypeId} {sz bytes : Nat} (h : (P.info? el).map (fun i => (i.size, i.bytes, i.zero.map fun z => z.cells.size)) = some (sz, bytes, some sz)) (h0 : 0 < sz) : ElOf P el sz bytes := ⟨by
  cases hi : P.info? el with
  | none => rw [hi] at h; cases h
  | some i =>
    rw [hi] at h
    simp only [Option.map_some, Option.some.injEq, Prod.mk.injEq] at h
    obtain ⟨h1, h2, h3⟩ := h
    cases hz : i.zero with
    | none => rw [hz] at h3; cases h3
    | some z => rw [hz] at h3; exact ⟨i, z, rfl, hz, h1, h2, by simpa using h3, h0⟩⟩
class NotInt (P : Program) (t : TypeId) : Prop where
  h : P.underlying t = some .string ∨ ∃ e, P.underlying t = some (.slice e)

/-- What append takes its new cells from. -/
def Src (P : Program) (l : List (Nat × Obj)) (H : Hp) (sz : Nat) (y : Value) (m : Nat) (ys : List Value) : Prop :=
  ys.length = m * sz ∧ (∀ w, (Builtin.lenOf y).run P w = .ok m w) ∧ ∀ X w, Wd X l H w → (Builtin.firstCells sz m y).run P w = .ok ys.toArray w

theorem Src.empty {P : Program} {l : List (Nat × Obj)} {H : Hp} {sz : Nat} {ad : Option Addr} {cap : Nat} : Src P l H sz (.slice ad 0 cap) 0 [] :=
  ⟨by simp, fun w => by simp [Builtin.lenOf], fun X w hw => run_firstCells0⟩
theorem Src.nil {P : Program} {l : List (Nat × Obj)} {H : Hp} {sz : Nat} : Src P l H sz (.slice none 0 0) 0 [] :=
  ⟨by simp, fun w => by simp [Builtin.lenOf], fun X w hw => by simp [Builtin.firstCells]⟩
theorem Src.cells {P : Program} {l : List (Nat × Obj)} {H : Hp} {sz b o m c t : Nat} {cs ys : List Value} {fz : Nat × Nat} (hb : SomeObj l H b (.cells cs.toArray t fz)) (hv : (cs.drop o).take (m * sz) = ys) (hl : ys.length = m * sz) : Src P l H sz (.slice (some ⟨b, o, none⟩) m c) m ys :=
  ⟨hl, fun w => by simp [Builtin.lenOf], fun X w hw => by
    simp only [Builtin.firstCells]
    exact run_loadCells_of (hb.heap hw) hv hl⟩
def bytesV (s : List UInt8) : List Value := s.map fun b => .int .u8 (b.toNat : Int)
theorem Src.str {P : Program} {l : List (Nat × Obj)} {H : Hp} {s : ByteArray} : Src P l H 1 (.string s) s.size (bytesV s.data.toList) :=
  ⟨by simp [bytesV], fun w => by simp [Builtin.lenOf], fun X w hw => by
    have h2 : s.extract 0 s.size = s := by simp
    simp only [Builtin.firstCells, bytesV, Sem.run_pure, h2]
    congr 1
    apply Array.ext'
    simp⟩

section
variable {P : Program} {X : Cx} {e : Env} {l : List (Nat × Obj)} {H : Hp} {D : List Deferred} {k : List It}
variable {ty : TypeId} {pos : String} {after : Array Edge} {gd : Option (Nat × Bool)} {all : Array Oper} {rest : List Oper}

theorem putObj_put {w : World} {b : Nat} {o1 o2 : Obj} : (w.putObj b o1).putObj b o2 = w.putObj b o2 := by simp [World.putObj]

theorem run_append_fit {t t' el sz cap n m b : Nat} (ht : P.underlying t = some (.slice el)) (hs : ∀ w, (sizeOf el).run P w = .ok sz w) (hd : P.underlying t' = some .string ∨ ∃ e, P.underlying t' = some (.slice e)) {y : Value} {ys cs : List Value} {w : World}
    (hlen : (Builtin.lenOf y).run P w = .ok m w) (hf : (Builtin.firstCells sz m y).run P w = .ok ys.toArray w) (hroom : n + m ≤ cap) (hb : w.heap[b]? = some (.cells cs.toArray el (0, 0))) (hfit : n * sz + ys.length ≤ cs.length) (h1 : ∀ u ∈ ys, u.oneCell' = true) :
    (Builtin.append_ #[t, t'] ty #[.slice (some ⟨b, 0, none⟩) n cap, y]).run P w = .ok (.slice (some ⟨b, 0, none⟩) (n + m) cap) (w.putObj b (.cells (cs.take (n * sz) ++ ys ++ cs.drop (n * sz + ys.length)).toArray el (0, 0))) := by
  have hst := run_storeCells_at (P := P) (w := w) ys cs (n * sz) 0 w hb (by simpa using hfit) h1
  simp only [Nat.add_zero] at hst
  have had : (⟨b, 0, none⟩ : Addr).add (n * sz) = ⟨b, n * sz, none⟩ := by unfold Addr.add; split <;> simp_all
  rcases hd with hd | ⟨e, hd⟩
  all_goals simp [Builtin.append_, run_underlying ht, run_underlying hd, hs, hlen, hroom, hf, had, hst]
theorem run_append_new {t t' el sz bytes cap n m : Nat} (ht : P.underlying t = some (.slice el)) {i : TypeInfo} {z : Value} (hi : P.info? el = some i) (hz : i.zero = some z) (hsz : i.size = sz) (hby : i.bytes = bytes) (hd : P.underlying t' = some .string ∨ ∃ e, P.underlying t' = some (.slice e)) {v y : Value} {ad : Option Addr} {xs ys : List Value} {w : World}
    (hv : v = .slice ad n cap) (hlen : (Builtin.lenOf y).run P w = .ok m w) (hfo : (Builtin.firstCells sz n v).run P w.drew = .ok xs.toArray w.drew) (hf : (Builtin.firstCells sz m y).run P w.drew = .ok ys.toArray w.drew) (hroom : cap < n + m) (hb : (n + m) * bytes ≤ 140737488355328) (hm : n + m ≤ 140737488355328) :
    (Builtin.append_ #[t, t'] ty #[v, y]).run P w = .ok (.slice (some ⟨w.heap.size, 0, none⟩) (n + m) (grownCap w (n + m) cap el)) (w.drew.alloc (.cells ((xs ++ ys).toArray ++ Builtin.zeroCells z.cells (grownCap w (n + m) cap el - (n + m))) el)) := by
  subst hv hsz hby
  have h48' : ¬ (281474976710656 < Builtin.nextslicecap (n + m) cap * i.bytes) := by
    have := growslice_fits (need := n + m) (old := cap) (bytes := i.bytes) (by omega) hb; omega
  have h63 : ¬ (9223372036854775807 < (n : Int) + (m : Int)) := by omega
  have hr : ¬ (n + m ≤ cap) := by omega
  rcases hd with hd | ⟨e, hd⟩
  all_goals simp [Builtin.append_, run_underlying ht, run_underlying hd, sizeOf, typeInfo, hi, hlen, hr, h63, h48', Question.forced, hfo, hf, zeroValue, hz, newRow, grownCap]
  all_goals rw [show (xs ++ ys).toArray = xs.toArray ++ ys.toArray by simp, Array.append_assoc]
theorem grown_cs (w : World) {n m old el sz : Nat} {z : Value} {xs ys : List Value} (hxl : xs.length = n * sz) (hyl : ys.length = m * sz) (hzs : z.cells.size = sz) (hm : n + m ≤ 140737488355328) :
    ∃ (cs : List Value), ((xs ++ ys).toArray ++ Builtin.zeroCells z.cells (grownCap w (n + m) old el - (n + m))) = cs.toArray ∧ grownCap w (n + m) old el ≤ maxLen ∧ n + m ≤ grownCap w (n + m) old el ∧ cs.length = grownCap w (n + m) old el * sz ∧ cs.take ((n + m) * sz) = xs ++ ys := by
  have hge := grownCap_ge w (n + m) old el
  have hcm : grownCap w (n + m) old el ≤ maxLen := grownCap_le_maxLen w (n + m) old el (by simp only [maxLen]; omega)
  have hl : (xs ++ ys).length = (n + m) * sz := by rw [List.length_append, hxl, hyl, Nat.add_mul]
  refine ⟨xs ++ ys ++ (Builtin.zeroCells z.cells (grownCap w (n + m) old el - (n + m))).toList, by simp, hcm, hge, ?_, ?_⟩
  · have : (Builtin.zeroCells z.cells (grownCap w (n + m) old el - (n + m))).toList.length = (grownCap w (n + m) old el - (n + m)) * sz := by simp [Builtin.zeroCells, hzs]
    rw [List.length_append, this, hl, ← Nat.add_mul]
    congr 1; omega
  · rw [← hl, List.take_left]
theorem vec_append {t t' el sz bytes : Nat} [hs : SlOf P t el sz] [he : ElOf P el sz bytes] [hn' : NotInt P t'] {v y : Value} {lv r : List (Nat × Obj)} {n m : Nat} {xs ys : List Value} {w : World}
    (hw : Wd X (lv ++ r) H w) (hv : Vec el sz v lv n xs) (hsrc : Src P (lv ++ r) H sz y m ys) (h1 : ∀ u ∈ ys, u.oneCell' = true) (hb : (n + m) * bytes ≤ 140737488355328) (hm : n + m ≤ 140737488355328) :
    ∃ v' lv' w', (Builtin.append_ #[t, t'] ty #[v, y]).run P w = .ok v' w' ∧ Vec el sz v' lv' (n + m) (xs ++ ys) ∧ Wd X (lv' ++ r) H w' ∧ (v' = .slice none 0 0 → n + m = 0) := by
  obtain ⟨i, z, hi, hz, hsz, hby, hzs, hpos⟩ := he.h
  obtain ⟨hyl, hlen, hfc⟩ := hsrc
  have hxl := hv.1
  have hxy : (xs ++ ys).length = (n + m) * sz := by rw [List.length_append, hxl, hyl, Nat.add_mul]
  rcases hv with ⟨_, ⟨⟨ad, rfl⟩, rfl, rfl⟩ | ⟨b, cap, cs, rfl, rfl, hnc, hcm, hcl, htk⟩⟩
  · have hx : xs = [] := List.eq_nil_of_length_eq_zero (by simpa using hxl)
    subst hx
    by_cases hm0 : m = 0
    · subst hm0
      have hy0 : ys = [] := List.eq_nil_of_length_eq_zero (by simpa using hyl)
      subst hy0
      refine ⟨.slice ad 0 0, [], w, ?_, Vec.empty _ _ _, hw, fun _ => rfl⟩
      have hf := hfc X w hw
      have hlw := hlen w
      rcases hn'.h with hd | ⟨e, hd⟩
      all_goals cases ad <;> simp [Builtin.append_, run_underlying hs.h, run_underlying hd, hs.s, hlw, hf, storeCells]
    · have hr := run_append_new (ty := ty) hs.h hi hz hsz hby hn'.h (n := 0) (cap := 0) (v := .slice ad 0 0) rfl (hlen w) (xs := []) run_firstCells0 (hfc X w.drew hw.drew) (by omega) hb hm
      obtain ⟨cs, c1, c2, c3, c4, c5⟩ := grown_cs w (n := 0) (m := m) (old := 0) (el := el) (z := z) (xs := []) (ys := ys) (by simp) hyl hzs hm
      rw [c1] at hr
      have hwd : Wd X ((w.heap.size, Obj.cells cs.toArray el) :: ([] ++ r)) H (w.drew.alloc (.cells cs.toArray el)) := hw.drew.alloc _
      exact ⟨_, [(w.heap.size, .cells cs.toArray el)], _, hr, ⟨hxy, .inr ⟨_, _, cs, rfl, rfl, c3, c2, c4, c5⟩⟩, hwd, by simp⟩
  · have hmem : (b, Obj.cells (List.toArray cs) el (0, 0)) ∈ [(b, Obj.cells (List.toArray cs) el (0, 0))] ++ r := by simp
    have hbk := (hw.own _ hmem).1
    simp only at hbk
    by_cases hroom : n + m ≤ cap
    · have hfit : n * sz + ys.length ≤ cs.length := by rw [hyl, hcl, ← Nat.add_mul]; exact Nat.mul_le_mul_right _ hroom
      have hu : Upd ((b, Obj.cells (List.toArray cs) el (0, 0)) :: r) b (Obj.cells (List.toArray cs) el (0, 0)) (.cells (cs.take (n * sz) ++ ys ++ cs.drop (n * sz + ys.length)).toArray el (0, 0)) ((b, .cells (cs.take (n * sz) ++ ys ++ cs.drop (n * sz + ys.length)).toArray el (0, 0)) :: r) := Upd.head
      have hup := hw.upd hu
      have hr := run_append_fit (ty := ty) hs.h hs.s hn'.h (hlen w) (hfc X w hw) hroom hbk hfit h1
      refine ⟨_, [(b, .cells (cs.take (n * sz) ++ ys ++ cs.drop (n * sz + ys.length)).toArray el (0, 0))], _, hr, ⟨hxy, .inr ⟨b, cap, _, rfl, rfl, hroom, hcm, ?_, ?_⟩⟩, hup, by simp⟩
      · rw [List.length_append, List.length_append, List.length_take, List.length_drop]; omega
      · rw [htk, ← hxy, List.take_left]
    · have hfo : (Builtin.firstCells sz n (.slice (some ⟨b, 0, none⟩) n cap)).run P w.drew = .ok xs.toArray w.drew := by
        simp only [Builtin.firstCells]
        exact run_loadCells_of (w := w.drew) hbk (by simpa using htk) hxl
      have hr := run_append_new (ty := ty) hs.h hi hz hsz hby hn'.h rfl (hlen w) hfo (hfc X w.drew hw.drew) (by omega) hb hm
      obtain ⟨cs', c1, c2, c3, c4, c5⟩ := grown_cs w (n := n) (m := m) (old := cap) (el := el) (z := z) (xs := xs) (ys := ys) hxl hyl hzs hm
      rw [c1] at hr
      have hwd : Wd X ((w.heap.size, Obj.cells cs'.toArray el) :: ([(b, Obj.cells (List.toArray cs) el (0, 0))] ++ r)) H (w.drew.alloc (.cells cs'.toArray el)) := hw.drew.alloc _
      exact ⟨_, [(w.heap.size, .cells cs'.toArray el)], _, hr, ⟨hxy, .inr ⟨_, _, cs', rfl, rfl, c3, c2, c4, c5⟩⟩, hwd.sub (.cons_cons _ (.cons _ (List.Sublist.refl _))), by simp⟩

/-- append, to a slice of the walk's own. -/
theorem T.append {t t' el sz bytes d : Nat} [hs : SlOf P t el sz] [he : ElOf P el sz bytes] [hn' : NotInt P t'] {x y : Operand} {v yv : Value} {lv : List (Nat × Obj)} (al : List (Nat × Obj)) {bl : List (Nat × Obj)} {n m : Nat} {xs ys : List Value}
    (hw : Wanted e all ⟨some d, .call ⟨.builtin .append, #[x, y], #[t, t']⟩, ty, pos, after, gd⟩) (hN : Nat.blt d X.N = true) (hx : evE e x = some v) (hy : evE e y = some yv)
    (hv : Vec el sz v lv n xs) (hsrc : Src P (al ++ (lv ++ bl)) H sz yv m ys) (h1 : ∀ u ∈ ys, u.oneCell' = true) (hb : (n + m) * bytes ≤ 140737488355328 ∧ n + m ≤ 140737488355328)
    (h : ∀ v' lv', Vec el sz v' lv' (n + m) (xs ++ ys) → (v' = .slice none 0 0 → n + m = 0) → T P X ((d, v') :: e) (al ++ (lv' ++ bl)) H D (.ops all rest :: k)) :
    T P X e (al ++ (lv ++ bl)) H D (.ops all (⟨some d, .call ⟨.builtin .append, #[x, y], #[t, t']⟩, ty, pos, after, gd⟩ :: rest) :: k) :=
  T.step hw rfl hN fun a w ha hw' => by
    have hp : ∀ lv : List (Nat × Obj), (lv ++ (al ++ bl)).Perm (al ++ (lv ++ bl)) := fun lv => by
      rw [← List.append_assoc, ← List.append_assoc]
      exact List.perm_append_comm.append_right _
    have hsrc' : Src P (lv ++ (al ++ bl)) H sz yv m ys := ⟨hsrc.1, hsrc.2.1, fun X w hw => hsrc.2.2 X w (hw.perm (hp lv).symm)⟩
    obtain ⟨v', lv', w', h2, h3, h4, h5⟩ := vec_append (t := t) (t' := t') (ty := ty) (hw'.perm (hp lv)) hv hsrc' h1 hb.1 hb.2
    refine ⟨v', al ++ (lv' ++ bl), H, w', ?_, h4.perm (hp lv').symm, h v' lv' h3 h5⟩
    simp [execOp, resolve, invoke, builtin, ha.eval hx, ha.eval hy, h2]

theorem T.appendE {t t' el sz bytes d : Nat} [hs : SlOf P t el sz] [he : ElOf P el sz bytes] [hn' : NotInt P t'] {x y : Operand} {v yv : Value} {lv : List (Nat × Obj)} (al : List (Nat × Obj)) {n m : Nat} {xs ys : List Value}
    (hw : Wanted e all ⟨some d, .call ⟨.builtin .append, #[x, y], #[t, t']⟩, ty, pos, after, gd⟩) (hN : Nat.blt d X.N = true) (hx : evE e x = some v) (hy : evE e y = some yv)
    (hv : Vec el sz v lv n xs) (hsrc : Src P (al ++ lv) H sz yv m ys) (h1 : ∀ u ∈ ys, u.oneCell' = true) (hb : (n + m) * bytes ≤ 140737488355328 ∧ n + m ≤ 140737488355328)
    (h : ∀ v' lv', Vec el sz v' lv' (n + m) (xs ++ ys) → (v' = .slice none 0 0 → n + m = 0) → T P X ((d, v') :: e) (al ++ lv') H D (.ops all rest :: k)) :
    T P X e (al ++ lv) H D (.ops all (⟨some d, .call ⟨.builtin .append, #[x, y], #[t, t']⟩, ty, pos, after, gd⟩ :: rest) :: k) := by
  have := T.append (X := X) (D := D) (k := k) (rest := rest) (ty := ty) al (bl := []) hw hN hx hy hv (by rw [List.append_nil]; exact hsrc) h1 hb (fun v' lv' h2 h3 => by rw [List.append_nil]; exact h v' lv' h2 h3)
  rwa [List.append_nil] at this

/-- The parts of a slice literal, one behind the other. -/
inductive FillAll (sz : Nat) : Nat → List (Nat × Value) → List Value → Prop
  | nil {i} : FillAll sz i [] []
  | cons {i v vs rest cs} (h2 : CellsR v vs) (h3 : Nat.beq vs.length sz = true) (h5 : FillAll sz (i + 1) rest cs) : FillAll sz i ((i, v) :: rest) (vs ++ cs)
theorem FillAll.fill {sz i : Nat} {parts : List (Nat × Value)} {cs : List Value} (h : FillAll sz i parts cs) : ∀ pre z : List Value, pre.length = i * sz → z.length = parts.length * sz → Instr.fill (fun i => some (i * sz, sz)) (pre ++ z).toArray parts = some (pre ++ cs).toArray := by
  induction h with
  | nil => intro pre z h1 h2; simp at h2; subst h2; simp [Instr.fill]
  | @cons i v vs rest cs h2 h3 h5 ih =>
    intro pre z hp hz
    have hs := Nat.eq_of_beq_eq_true h3
    have hsz : v.cells.size = vs.length := by rw [h2.cells]; simp
    simp only [List.length_cons, Nat.add_mul, Nat.one_mul] at hz
    simp only [Instr.fill]
    rw [if_neg (by simp [hsz, hs, hp, hz])]
    have hf : v.cells.zipIdx.foldl (fun cs (p : Value × Nat) => cs.setIfInBounds (i * sz + p.2) p.1) (pre ++ z).toArray = ((pre ++ vs) ++ z.drop sz).toArray := by
      rw [h2.cells]
      have := splice_fold vs (pre ++ z) (i * sz) 0 (by rw [List.length_append, hp, hz, hs]; omega)
      simp only [Nat.add_zero] at this
      have e1 : (pre ++ z).take (i * sz) = pre := by rw [← hp, List.take_left]
      have e2 : (pre ++ z).drop (i * sz + vs.length) = z.drop sz := by rw [← hp, ← List.drop_drop, List.drop_left, hs]
      rw [e1, e2] at this
      rw [← this]
      simp [← Array.foldl_toList]
    rw [hf, ih (pre ++ vs) (z.drop sz) (by rw [List.length_append, hp, hs, Nat.add_mul, Nat.one_mul]) (by rw [List.length_drop, hz]; omega)]
    simp
theorem T.buildSlice {t el sz bytes d len : Nat} [hs : SlOf P t el sz] [he : ElOf P el sz bytes] {ps : List (Nat × Operand)} {vs : List (Nat × Value)} {cs : List Value}
    (hw : Wanted e all ⟨some d, .buildSlice t len ps.toArray, ty, pos, after, gd⟩) (hN : Nat.blt d X.N = true) (hp : evParts e ps = some vs)
    (hfa : FillAll sz 0 vs cs) (hvl : Nat.beq vs.length len = true) (hlen : Nat.ble (len * sz) 10000 = true)
    (h : ∀ b, T P X ((d, .slice (some ⟨b, 0, none⟩) len len) :: e) ((b, .cells cs.toArray el (0, 0)) :: l) H D (.ops all rest :: k)) :
    T P X e l H D (.ops all (⟨some d, .buildSlice t len ps.toArray, ty, pos, after, gd⟩ :: rest) :: k) :=
  T.step hw rfl hN fun a w ha hw' => by
    obtain ⟨i, z1, hi, hz, hsz, hby, hzs, hpos⟩ := he.h
    subst hsz
    have hvl' := Nat.eq_of_beq_eq_true hvl
    have hf : ∀ z0 : List Value, z0.length = len * i.size → Instr.fill (fun j => some (j * i.size, i.size)) z0.toArray vs = some cs.toArray := fun z0 h0 => by
      have := hfa.fill [] z0 (by simp) (by rw [h0, hvl'])
      simpa using this
    refine ⟨_, _, _, w.alloc (.cells cs.toArray el), ?_, hw'.alloc _, h w.heap.size⟩
    have h1 : (ps.toArray.map fun (p : Nat × Operand) => (p.1, a.eval p.2)) = vs.toArray := by rw [← evParts_map ha ps vs hp]; simp
    have hle := Nat.le_of_ble_eq_true hlen
    have hbig : ¬ (16777216 < len * i.size) := by omega
    simp only [execOp, Instr.buildSlice, Sem.run_bind, run_underlying hs.h, Result.andThen_ok, hs.s]
    rw [h1]
    by_cases h0 : len * i.size = 0
    · have := hf [] (by simp [h0])
      simp [hbig, h0, show Array.range 0 = #[] from rfl, this, newRow, newObj, Sem.run]
    · have := hf ((Array.range (len * i.size)).map (z1.cells[· % z1.cells.size]!)).toList (by simp)
      rw [Array.toArray_toList] at this
      simp [hbig, h0, zeroValue, typeInfo, hi, hz, this, newRow, newObj, Sem.run]

theorem T.makeSlice0 {t el sz bytes d : Nat} [hs : SlOf P t el sz] [he : ElOf P el sz bytes] {x y : Operand} {cap : Int}
    (hw : Wanted e all ⟨some d, .makeSlice t x y, ty, pos, after, gd⟩) (hN : Nat.blt d X.N = true) (hx : evE e x = some (.int .i64 0)) (hy : evE e y = some (.int .i64 cap)) (hc : 0 ≤ cap ∧ cap ≤ 140737488355328 ∧ (bytes : Int) * cap ≤ 140737488355328)
    (h : ∀ v lv, Vec el sz v lv 0 [] → v ≠ .slice none 0 0 → T P X ((d, v) :: e) (lv ++ l) H D (.ops all rest :: k)) :
    T P X e l H D (.ops all (⟨some d, .makeSlice t x y, ty, pos, after, gd⟩ :: rest) :: k) :=
  T.step hw rfl hN fun a w ha hw' => by
    obtain ⟨i, z1, hi, hz, hsz, hby, hzs, hpos⟩ := he.h
    subst hsz hby
    obtain ⟨c, rfl⟩ := Int.eq_ofNat_of_zero_le hc.1
    have hwr : IntKind.i64.wrap (c : Int) = c := wrap64_id (by omega)
    have hw0 : IntKind.i64.wrap (0 : Int) = 0 := by decide
    have hb1 : ¬ (281474976710656 < (i.bytes : Int) * c) := by omega
    have hb2 : ¬ ((c : Int) < 0) := by omega
    obtain ⟨cs, hcs⟩ : ∃ cs : List Value, (if c * i.size = 0 then (#[] : Array Value) else ((Array.range (c * i.size)).map (z1.cells[· % z1.cells.size]!))) = cs.toArray := ⟨_, (Array.toArray_toList (xs := _)).symm⟩
    have hcl : cs.length = c * i.size := by
      have := congrArg Array.size hcs
      simp at this
      rw [← this]; split
      · rename_i h0; simp [h0]
      · simp
    refine ⟨.slice (some ⟨w.heap.size, 0, none⟩) 0 c, [(w.heap.size, .cells cs.toArray el)] ++ l, H, w.alloc (.cells cs.toArray el), ?_, hw'.alloc _, h _ _ ⟨by simp, .inr ⟨_, c, cs, rfl, rfl, by omega, by unfold maxLen; omega, hcl, by simp⟩⟩ (by simp)⟩
    simp [execOp, Instr.makeSlice, ha.eval hx, ha.eval hy, run_underlying hs.h, asInt, asIntOf, typeInfo, hi, hwr, hw0, hb1, hb2, sizeOf]
    by_cases h0 : c * i.size = 0
    · rw [if_pos h0] at hcs
      simp [h0, newRow, ← hcs, show Array.range 0 = #[] from rfl]
    · rw [if_neg h0] at hcs
      simp [h0, newRow, zeroValue, typeInfo, hi, hz, ← hcs]
end

/-! ### slices that are only read -/
/-- The value reads as a slice of n elements of sz cells each: xs. -/
def SlR (H : Hp) (sz : Nat) (v : Value) (n : Nat) (xs : List Value) : Prop :=
  xs.length = n * sz ∧ (((∃ ad cap, v = .slice ad 0 cap) ∧ n = 0) ∨ ∃ b off cap cs t fz, v = .slice (some ⟨b, off, none⟩) n cap ∧ H b = some (.cells (List.toArray cs) t fz) ∧ (cs.drop off).take (n * sz) = xs ∧ n ≤ cap)
theorem SlR.mono {H H' : Hp} {sz : Nat} {v : Value} {n : Nat} {xs : List Value} (h : SlR H sz v n xs) (hl : H.le H') : SlR H' sz v n xs := by
  refine ⟨h.1, ?_⟩
  rcases h.2 with h | ⟨b, off, cap, cs, t, fz, h1, h2, h3, h4⟩
  · exact .inl h
  · exact .inr ⟨b, off, cap, cs, t, fz, h1, hl _ _ h2, h3, h4⟩
theorem SlR.len {H : Hp} {sz : Nat} {v : Value} {n : Nat} {xs : List Value} (h : SlR H sz v n xs) : ∃ ad cap, v = .slice ad n cap := by
  rcases h.2 with ⟨⟨ad, cap, rfl⟩, h0⟩ | ⟨b, off, cap, cs, t, fz, rfl, _⟩
  · exact ⟨ad, cap, by rw [h0]⟩
  · exact ⟨_, _, rfl⟩
theorem SlR.cap {H : Hp} {sz : Nat} {ad : Option Addr} {n c : Nat} {xs : List Value} (h : SlR H sz (.slice ad n c) n xs) : n ≤ c := by
  rcases h.2 with ⟨_, rfl⟩ | ⟨b, off, cap, cs, t, fz, hv, _, _, hc⟩
  · omega
  · injection hv with e1 e2 e3; omega
theorem SlR.empty {H : Hp} {sz : Nat} {ad : Option Addr} {cap : Nat} : SlR H sz (.slice ad 0 cap) 0 [] := ⟨by simp, .inl ⟨⟨_, _, rfl⟩, rfl⟩⟩
theorem SlR.src {P : Program} {l : List (Nat × Obj)} {H : Hp} {sz : Nat} {v : Value} {n : Nat} {xs : List Value} (h : SlR H sz v n xs) : Src P l H sz v n xs := by
  rcases h.2 with ⟨⟨ad, cap, rfl⟩, rfl⟩ | ⟨b, off, cap, cs, t, fz, rfl, h2, h3, h4⟩
  · have : xs = [] := List.eq_nil_of_length_eq_zero (by simpa using h.1)
    subst this; exact Src.empty
  · exact Src.cells (.fro h2) h3 h.1
/-- Some cells of a block that is only read. -/
def SubC (H : Hp) (b o : Nat) (vs : List Value) : Prop := ∃ cs t fz, H b = some (.cells (List.toArray cs) t fz) ∧ (cs.drop o).take vs.length = vs
theorem SubC.mono {H H' : Hp} {b o : Nat} {vs : List Value} (h : SubC H b o vs) (hl : H.le H') : SubC H' b o vs := by
  obtain ⟨cs, t, fz, h1, h2⟩ := h
  exact ⟨cs, t, fz, hl _ _ h1, h2⟩
/-- Element i of a slice that is only read: where it lies. -/
theorem SlR.elem {H : Hp} {sz : Nat} {v : Value} {n : Nat} {xs vs : List Value} {i : Nat} (h : SlR H sz v n xs) (hi : i < n) (hvs : (xs.drop (i * sz)).take sz = vs) :
    ∃ b off cap, v = .slice (some ⟨b, off, none⟩) n cap ∧ SubC H b (off + i * sz) vs := by
  rcases h.2 with ⟨_, rfl⟩ | ⟨b, off, cap, cs, t, fz, rfl, h2, h3, h4⟩
  · omega
  · refine ⟨b, off, cap, rfl, cs, t, fz, h2, ?_⟩
    have hle : (i + 1) * sz ≤ n * sz := Nat.mul_le_mul_right _ hi
    rw [Nat.add_mul, Nat.one_mul] at hle
    have hl : vs.length = sz := by rw [← hvs, List.length_take, List.length_drop, h.1]; omega
    rw [hl, ← hvs, ← h3, ← List.drop_drop, List.drop_take, List.take_take]
    congr 1; omega
theorem flat_elem {α : Type} {f : α → List Value} {sz : Nat} (hf : ∀ x, (f x).length = sz) : ∀ (xs : List α) (i : Nat) (x : α), xs[i]? = some x → ((xs.flatMap f).drop (i * sz)).take sz = f x
  | [], i, x, h => by simp at h
  | y :: ys, 0, x, h => by simp at h; subst h; simp [hf, List.take_append, List.take_of_length_le (Nat.le_of_eq (hf y))]
  | y :: ys, i + 1, x, h => by
    have h' : ys[i]? = some x := by simpa using h
    rw [List.flatMap_cons, Nat.add_mul, Nat.one_mul, Nat.add_comm, ← List.drop_drop, List.drop_append_of_le_length (Nat.le_of_eq (hf y).symm), List.drop_of_length_le (Nat.le_of_eq (hf y)), List.nil_append]
    exact flat_elem hf ys i x h'
theorem flat_len {α : Type} {f : α → List Value} {sz : Nat} (hf : ∀ x, (f x).length = sz) (xs : List α) : (xs.flatMap f).length = xs.length * sz := by
  induction xs with
  | nil => simp
  | cons y ys ih => simp [ih, hf, Nat.add_mul]; omega

theorem PV.loadSub {P : Program} {e : Env} {l : List (Nat × Obj)} {H : Hp} {dst : Option Tmp} {ty : TypeId} {pos : String} {after : Array Edge} {gd : Option (Nat × Bool)} {t : TypeId} [h : IsOne P t] {x : Operand} {b o f : Nat} {vs : List Value} {v : Value}
    (hx : evE e x = some (.pointer (some ⟨b, o + f, none⟩))) (hs : SubC H b o vs) (hv : vs[f]? = some v) : PV P e l H ⟨dst, .load t x, ty, pos, after, gd⟩ v := by
  obtain ⟨cs, t', fz, h1, h2⟩ := hs
  refine PV.load1 hx (.fro h1) ?_
  have hf := (List.getElem?_eq_some_iff.1 hv).1
  rw [← h2, List.getElem?_take, if_pos hf, List.getElem?_drop] at hv
  exact hv
theorem PV.loadSub0 {P : Program} {e : Env} {l : List (Nat × Obj)} {H : Hp} {dst : Option Tmp} {ty : TypeId} {pos : String} {after : Array Edge} {gd : Option (Nat × Bool)} {t : TypeId} [h : IsOne P t] {x : Operand} {b o : Nat} {v : Value}
    (hx : evE e x = some (.pointer (some ⟨b, o, none⟩))) (hs : SubC H b o [v]) : PV P e l H ⟨dst, .load t x, ty, pos, after, gd⟩ v :=
  PV.loadSub (f := 0) (by simpa using hx) hs rfl
theorem PV.loadSubAll {P : Program} {e : Env} {l : List (Nat × Obj)} {H : Hp} {dst : Option Tmp} {ty : TypeId} {pos : String} {after : Array Edge} {gd : Option (Nat × Bool)} {t : TypeId} {n : Nat} [h : IsAgg P t n] {x : Operand} {b o : Nat} {vs : List Value}
    (hx : evE e x = some (.pointer (some ⟨b, o, none⟩))) (hs : SubC H b o vs) (hn : Nat.beq vs.length n = true) : PV P e l H ⟨dst, .load t x, ty, pos, after, gd⟩ (.agg vs.toArray) := by
  obtain ⟨cs, t', fz, h1, h2⟩ := hs
  have hl := Nat.eq_of_beq_eq_true hn
  rw [hl] at h2
  exact PV.loadAgg hx (.fro h1) h2 hl

/-- A slice of the walk's own is given up for writing. -/
theorem Vec.freeze {P : Program} {X : Cx} {e : Env} {l : List (Nat × Obj)} {H : Hp} {D : List Deferred} {k : List It} {el sz : Nat} {v : Value} {lv : List (Nat × Obj)} {n : Nat} {xs : List Value} (hv : Vec el sz v lv n xs)
    (h : ∀ H', H.le H' → SlR H' sz v n xs → T P X e l H' D k) : T P X e (lv ++ l) H D k := by
  rcases hv with ⟨hl, ⟨⟨ad, rfl⟩, rfl, rfl⟩ | ⟨b, cap, cs, rfl, rfl, h1, h2, h3, h4⟩⟩
  · exact h H (Hp.le.refl _) ⟨hl, .inl ⟨⟨_, _, rfl⟩, rfl⟩⟩
  · refine T.mk fun a w ha hw => ?_
    have hn := (hw.own _ List.mem_cons_self).2.1
    exact (h _ (Hp.le_put hn) ⟨hl, .inr ⟨b, 0, cap, cs, el, (0, 0), rfl, Hp.put_same, by simpa using h4, h1⟩⟩).get a w ha (Wd.freeze hw)
theorem Lv.weak {P : Program} {X : Cx} {fn : Func} {R : Ending → World → Prop} {e : Env} {l l' : List (Nat × Obj)} {H : Hp} {D : List Deferred} (hl : List.Sublist l' l) (h : Lv P X fn R e l' H D) : Lv P X fn R e l H D :=
  Lv.mk fun D0 a w ha hw => h.get D0 a w ha (hw.sub hl)
theorem Vec.freezeLv {P : Program} {X : Cx} {fn : Func} {R : Ending → World → Prop} {e : Env} {l l' : List (Nat × Obj)} {H : Hp} {D : List Deferred} {el sz : Nat} {v : Value} {lv : List (Nat × Obj)} {n : Nat} {xs : List Value} (hv : Vec el sz v lv n xs)
    (hsub : List.Sublist (lv ++ l') l) (h : ∀ H', H.le H' → SlR H' sz v n xs → Lv P X fn R e l' H' D) : Lv P X fn R e l H D := by
  refine Lv.weak hsub ?_
  rcases hv with ⟨hl, ⟨⟨ad, rfl⟩, rfl, rfl⟩ | ⟨b, cap, cs, rfl, rfl, h1, h2, h3, h4⟩⟩
  · exact h H (Hp.le.refl _) ⟨hl, .inl ⟨⟨_, _, rfl⟩, rfl⟩⟩
  · refine Lv.mk fun D0 a w ha hw => ?_
    have hn := (hw.own _ List.mem_cons_self).2.1
    exact (h _ (Hp.le_put hn) ⟨hl, .inr ⟨b, 0, cap, cs, el, (0, 0), rfl, Hp.put_same, by simpa using h4, h1⟩⟩).get D0 a w ha (Wd.freeze hw)

theorem Vec.src {P : Program} {H : Hp} {el sz : Nat} {v : Value} {lv : List (Nat × Obj)} (al : List (Nat × Obj)) {bl : List (Nat × Obj)} {n : Nat} {xs : List Value} (hv : Vec el sz v lv n xs) : Src P (al ++ (lv ++ bl)) H sz v n xs := by
  rcases hv with ⟨hl, ⟨⟨ad, rfl⟩, rfl, rfl⟩ | ⟨b, cap, cs, rfl, rfl, h1, h2, h3, h4⟩⟩
  · have : xs = [] := List.eq_nil_of_length_eq_zero (by simpa using hl)
    subst this; exact Src.empty
  · have hm : (b, Obj.cells (List.toArray cs) el (0, 0)) ∈ al ++ ([(b, Obj.cells (List.toArray cs) el (0, 0))] ++ bl) := by simp
    exact Src.cells (.own hm) (by simpa using h4) hl

theorem Vec.srcE {P : Program} {H : Hp} {el sz : Nat} {v : Value} {lv : List (Nat × Obj)} (al : List (Nat × Obj)) {n : Nat} {xs : List Value} (hv : Vec el sz v lv n xs) : Src P (al ++ lv) H sz v n xs := by
  have := Vec.src (P := P) (H := H) al (bl := []) hv
  rwa [List.append_nil] at this

/-! ### elements of a slice of the walk's own -/
section
variable {P : Program} {X : Cx} {e : Env} {l : List (Nat × Obj)} {H : Hp} {D : List Deferred} {k : List It}
variable {dst : Option Tmp} {ty : TypeId} {pos : String} {after : Array Edge} {gd : Option (Nat × Bool)} {all : Array Oper} {rest : List Oper}
theorem Vec.ptr {el sz : Nat} {v : Value} {lv : List (Nat × Obj)} {n : Nat} {xs : List Value} (h : Vec el sz v lv n xs) (hn : 0 < n) : ∃ b cap, v = .slice (some ⟨b, 0, none⟩) n cap := by
  rcases h.2 with ⟨_, _, rfl⟩ | ⟨b, cap, cs, rfl, _⟩
  · omega
  · exact ⟨b, cap, rfl⟩
theorem Vec.row {el sz b n m cap : Nat} {lv : List (Nat × Obj)} {xs : List Value} (h : Vec el sz (.slice (some ⟨b, 0, none⟩) m cap) lv n xs) (hn : xs ≠ []) : m = n ∧ n ≤ cap ∧ cap ≤ maxLen ∧ ∃ tl, lv = [(b, .cells (xs ++ tl).toArray el (0, 0))] ∧ (xs ++ tl).length = cap * sz := by
  rcases h.2 with ⟨h', _, h0⟩ | ⟨b', cap', cs, h', rfl, h1, h2, h3, h4⟩
  · exact absurd (List.eq_nil_of_length_eq_zero (by rw [h.1, h0, Nat.zero_mul])) hn
  · injection h' with e1 e2 e3
    injection e1 with e1
    injection e1 with e1
    subst e1 e2 e3
    refine ⟨rfl, h1, h2, cs.drop (m * sz), ?_, ?_⟩
    · rw [← h4, List.take_append_drop]
    · rw [← h4, List.take_append_drop, h3]
theorem PV.loadVec {lv : List (Nat × Obj)} {t : TypeId} [h : IsOne P t] {x : Operand} {el sz b o n m cap : Nat} {xs : List Value} {v : Value}
    (hx : evE e x = some (.pointer (some ⟨b, o, none⟩))) (hv : Vec el sz (.slice (some ⟨b, 0, none⟩) m cap) lv n xs) (hs : List.Sublist lv l) (hc : xs[o]? = some v) : PV P e l H ⟨dst, .load t x, ty, pos, after, gd⟩ v := by
  obtain ⟨_, _, _, tl, rfl, _⟩ := hv.row (by rintro rfl; simp at hc)
  have hm : (b, Obj.cells (xs ++ tl).toArray el (0, 0)) ∈ l := hs.subset List.mem_cons_self
  refine PV.load1 hx (.own hm) ?_
  rw [List.getElem?_append_left (List.getElem?_eq_some_iff.1 hc).1]; exact hc
theorem PV.loadVecAll {lv : List (Nat × Obj)} {t : TypeId} {m : Nat} [h : IsAgg P t m] {x : Operand} {el sz b o n n' cap : Nat} {xs vs : List Value}
    (hx : evE e x = some (.pointer (some ⟨b, o, none⟩))) (hv : Vec el sz (.slice (some ⟨b, 0, none⟩) n' cap) lv n xs) (hs : List.Sublist lv l) (hc : (xs.drop o).take m = vs) (hn : Nat.beq vs.length m = true) (h0 : Nat.blt 0 m = true := by exact rfl) : PV P e l H ⟨dst, .load t x, ty, pos, after, gd⟩ (.agg vs.toArray) := by
  have hl := Nat.eq_of_beq_eq_true hn
  have h0' : 0 < m := by simpa using h0
  obtain ⟨_, _, _, tl, rfl, _⟩ := hv.row (by rintro rfl; simp at hc; subst hc; simp at hl; omega)
  have hm : (b, Obj.cells (xs ++ tl).toArray el (0, 0)) ∈ l := hs.subset List.mem_cons_self
  refine PV.loadAgg hx (.own hm) ?_ hl
  rcases Nat.lt_or_ge xs.length o with ho | ho
  · have : vs = [] := by rw [← hc, List.drop_of_length_le (by omega)]; simp
    subst this
    simp at hl
    subst hl; simp
  · have := congrArg List.length hc
    rw [List.length_take, hl] at this
    rw [List.drop_append_of_le_length ho, List.take_append_of_le_length (by omega), hc]
theorem T.storeVec {t : TypeId} [ht : IsOne P t] {x y : Operand} {v : Value} {lv : List (Nat × Obj)} (al : List (Nat × Obj)) {bl : List (Nat × Obj)} {el sz b o n m cap : Nat} {xs : List Value} (hw : Wanted e all ⟨none, .store t x y, ty, pos, after, gd⟩)
    (hx : evE e x = some (.pointer (some ⟨b, o, none⟩))) (hy : evE e y = some v) (h1 : v.oneCell' = true) (hv : Vec el sz (.slice (some ⟨b, 0, none⟩) m cap) lv n xs) (ho : o < xs.length)
    (h : ∀ lv', Vec el sz (.slice (some ⟨b, 0, none⟩) m cap) lv' n (xs.set o v) → T P X e (al ++ (lv' ++ bl)) H D (.ops all rest :: k)) : T P X e (al ++ (lv ++ bl)) H D (.ops all (⟨none, .store t x y, ty, pos, after, gd⟩ :: rest) :: k) := by
  obtain ⟨rfl, r1, r2, tl, rfl, r3⟩ := hv.row (by rintro rfl; simp at ho)
  have hs : Splice (xs ++ tl) o [v] (xs.set o v ++ tl) := by
    have : ∀ (xs : List Value) (o : Nat), o < xs.length → Splice (xs ++ tl) o [v] (xs.set o v ++ tl) := by
      intro xs
      induction xs with
      | nil => intro o h; simp at h
      | cons u us ih =>
        intro o h
        cases o with
        | zero => exact .cons .nil
        | succ o => exact .skip (ih o (by simpa using h))
    exact this xs o ho
  refine T.store1 hw hx hy h1 (Upd.app (x := al) (Upd.head (l := bl))) hs ?_
  refine h [(b, .cells (xs.set o v ++ tl).toArray el (0, 0))] ⟨by rw [List.length_set]; exact hv.1, .inr ⟨b, cap, xs.set o v ++ tl, rfl, rfl, r1, r2, by rw [← r3]; simp, ?_⟩⟩
  have hl : (xs.set o v).length = m * sz := by rw [List.length_set]; exact hv.1
  rw [← hl, List.take_left]
theorem T.storeVecE {t : TypeId} [ht : IsOne P t] {x y : Operand} {v : Value} {lv : List (Nat × Obj)} (al : List (Nat × Obj)) {el sz b o n m cap : Nat} {xs : List Value} (hw : Wanted e all ⟨none, .store t x y, ty, pos, after, gd⟩)
    (hx : evE e x = some (.pointer (some ⟨b, o, none⟩))) (hy : evE e y = some v) (h1 : v.oneCell' = true) (hv : Vec el sz (.slice (some ⟨b, 0, none⟩) m cap) lv n xs) (ho : o < xs.length)
    (h : ∀ lv', Vec el sz (.slice (some ⟨b, 0, none⟩) m cap) lv' n (xs.set o v) → T P X e (al ++ lv') H D (.ops all rest :: k)) : T P X e (al ++ lv) H D (.ops all (⟨none, .store t x y, ty, pos, after, gd⟩ :: rest) :: k) := by
  have := T.storeVec (X := X) (D := D) (k := k) (rest := rest) (ty := ty) (H := H) al (bl := []) hw hx hy h1 hv ho (fun lv' h2 => by rw [List.append_nil]; exact h lv' h2)
  rwa [List.append_nil] at this
end

/-! ### bytes to a string -/
theorem bytes_back (l : List UInt8) (s : ByteArray) : (bytesV l).foldl (fun (s : ByteArray) v => match v with | .int _ n => s.push (UInt8.ofNat n.toNat) | _ => s) s = ⟨s.data ++ l.toArray⟩ := by
  induction l generalizing s with
  | nil => cases s; simp [bytesV]
  | cons b l ih =>
    have : bytesV (b :: l) = .int .u8 (b.toNat : Int) :: bytesV l := rfl
    rw [this, List.foldl_cons, ih]
    cases s with
    | mk d => simp [ByteArray.push]

theorem run_forBytes {P : Program} {w : World} (F : Value → ByteArray → Sem (ForInStep ByteArray)) (hF : ∀ (n : Int) (s : ByteArray), F (.int .u8 n) s = pure (.yield (s.push (UInt8.ofNat n.toNat)))) : ∀ (bs : List UInt8) (s : ByteArray),
    (forIn (bytesV bs) s F).run P w = .ok ⟨s.data ++ bs.toArray⟩ w
  | [], s => by cases s; simp [bytesV]
  | b :: bs, s => by
    have h1 : bytesV (b :: bs) = .int .u8 (b.toNat : Int) :: bytesV bs := rfl
    rw [h1, List.forIn_cons, hF]
    simp
    rw [run_forBytes F hF bs]
    cases s with
    | mk d => simp [ByteArray.push]

theorem PV.bytesStr {P : Program} {e : Env} {l : List (Nat × Obj)} {H : Hp} {dst : Option Tmp} {ty : TypeId} {pos : String} {after : Array Edge} {gd : Option (Nat × Bool)} {s t el sz : Nat} [hs : SlOf P s el sz] [hk : IntT P el .u8] [ht : StrT P t] {x : Operand} {v : Value} {n : Nat} {bs : List UInt8}
    (hx : evE e x = some v) (hsrc : Src P l H 1 v n (bytesV bs)) (hv : ∃ ad cap, v = .slice ad n cap) : PV P e l H ⟨dst, .convert s t x, ty, pos, after, gd⟩ (.string ⟨bs.toArray⟩) := PV.mk fun X D a w ha hw => by
  obtain ⟨ad, cap, rfl⟩ := hv
  have hf := hsrc.2.2 X w hw
  have hl := hsrc.1
  simp [execOp, ha.eval hx, convert, run_underlying hs.h, run_underlying ht.h, run_underlying hk.h, Conv.bytesToString]
  cases ad with
  | none =>
    simp [Builtin.firstCells] at hf
    have : bs = [] := by
      cases bs with
      | nil => rfl
      | cons b bs => simp [bytesV] at hf
    subst this; simp; rfl
  | some ad =>
    simp [Builtin.firstCells] at hf
    simp [hf]
    rw [run_forBytes _ (fun n s => rfl)]
    simp

end Go.Proofs.Ytceaicameojcaaa
