/- Own layer: more operations: division, slices of slices, copy, clear, comparisons with nil. -/
import Derived.Test.YtceaicameojcaaaXP
namespace Go.Proofs.Ytceaicameojcaaa
open Go.RowKit

section
variable {P : Program} {X : Cx} {e : Env} {l : List (Nat × Obj)} {H : Hp} {D : List Deferred} {k : List It}
variable {dst : Option Tmp} {ty : TypeId} {pos : String} {after : Array Edge} {gd : Option (Nat × Bool)} {all : Array Oper} {rest : List Oper}

theorem PV.rem {x y : Operand} {t t' : TypeId} {kk : IntKind} {m n : Int} (hx : evE e x = some (.int kk m)) (hy : evE e y = some (.int kk n)) (hn : n ≠ 0) :
    PV P e l H ⟨dst, .binOp .rem t x y t', ty, pos, after, gd⟩ (.int kk (m.tmod n)) := PV.mk fun X D a w ha hw => by
  simp [execOp, ha.eval hx, ha.eval hy, binOp, eqGuard, Op.intDiv, hn]
theorem PV.quo {x y : Operand} {t t' : TypeId} {m n : Int} (hx : evE e x = some (.int .i64 m)) (hy : evE e y = some (.int .i64 n)) (hn : n ≠ 0) (hr : -9223372036854775808 ≤ m.tdiv n ∧ m.tdiv n ≤ 9223372036854775807) :
    PV P e l H ⟨dst, .binOp .quo t x y t', ty, pos, after, gd⟩ (.int .i64 (m.tdiv n)) := PV.mk fun X D a w ha hw => by
  simp [execOp, ha.eval hx, ha.eval hy, binOp, eqGuard, Op.intDiv, hn, wrap64_id hr]

theorem run_slNilIn {t el sz : Nat} [hs : SlOf P t el sz] (d : Nat) (ad : Option Addr) (n cap : Nat) (w : World) : (Op.equalIn (d + 1) t (.slice ad n cap) (.slice none 0 0)).run P w = .ok ad.isNone w := by
  cases ad <;> simp [Op.equalIn, run_underlying hs.h]
theorem run_slNil {t el sz : Nat} [hs : SlOf P t el sz] (ad : Option Addr) (n cap : Nat) (w : World) : (Op.equal t (.slice ad n cap) (.slice none 0 0)).run P w = .ok ad.isNone w := run_slNilIn 9999 ad n cap w
theorem run_eqlNil {t el sz : Nat} [hs : SlOf P t el sz] (ad : Option Addr) (n cap : Nat) (w : World) : (binOp .eql t (.slice ad n cap) (.slice none 0 0)).run P w = .ok (.bool ad.isNone) w := by
  simp only [binOp]
  simp [run_slNil]
theorem run_neqNil {t el sz : Nat} [hs : SlOf P t el sz] (ad : Option Addr) (n cap : Nat) (w : World) : (binOp .neq t (.slice ad n cap) (.slice none 0 0)).run P w = .ok (.bool (!ad.isNone)) w := by
  simp only [binOp]
  simp [run_slNil]
theorem PV.slNilR {t t' el sz : Nat} [hs : SlOf P t el sz] {x y : Operand} {ad : Option Addr} {n cap : Nat} (hx : evE e x = some (.slice ad n cap)) (hy : evE e y = some (.slice none 0 0)) :
    PV P e l H ⟨dst, .binOp .eql t x y t', ty, pos, after, gd⟩ (.bool ad.isNone) := PV.mk fun X D a w ha hw => by
  have h1 := run_eqlNil (P := P) (t := t) ad n cap w
  simp [execOp, ha.eval hx, ha.eval hy, eqGuard, h1]
theorem PV.slNnilR {t t' el sz : Nat} [hs : SlOf P t el sz] {x y : Operand} {ad : Option Addr} {n cap : Nat} (hx : evE e x = some (.slice ad n cap)) (hy : evE e y = some (.slice none 0 0)) :
    PV P e l H ⟨dst, .binOp .neq t x y t', ty, pos, after, gd⟩ (.bool (!ad.isNone)) := PV.mk fun X D a w ha hw => by
  have h1 := run_neqNil (P := P) (t := t) ad n cap w
  simp [execOp, ha.eval hx, ha.eval hy, eqGuard, h1]
theorem addr_add (b o n : Nat) : (⟨b, o, none⟩ : Addr).add n = ⟨b, o + n, none⟩ := by unfold Addr.add; split <;> simp_all
/-! ### slices of slices -/
/-- The value of x[lo:hi]. -/
def slV (sz : Nat) (ad : Option Addr) (lo hi cap : Nat) : Value := .slice (if cap = lo then ad else ad.map (·.add (lo * sz))) (hi - lo) (cap - lo)
theorem PV.sliceLH {t el sz : Nat} [hs : SlOf P t el sz] {x y z : Operand} {ad : Option Addr} {n cap : Nat} {lo hi : Int} (hx : evE e x = some (.slice ad n cap)) (hy : evE e y = some (.int .i64 lo)) (hz : evE e z = some (.int .i64 hi)) (h0 : 0 ≤ lo ∧ lo ≤ hi ∧ hi ≤ cap) :
    PV P e l H ⟨dst, .slice t x (some y) (some z) none, ty, pos, after, gd⟩ (slV sz ad lo.toNat hi.toNat cap) := PV.mk fun X D a w ha hw => by
  have e1 : 0 ≤ hi ∧ hi ≤ (cap : Int) := by omega
  have e2 : 0 ≤ lo ∧ lo ≤ (hi.toNat : Int) := by omega
  simp [execOp, ha.eval hx, ha.eval hy, ha.eval hz, Instr.sliceAt, Instr.slice, Instr.sliceBounds, Instr.sliceBound, asIntOf, run_underlying hs.h, hs.s, e1, e2, slV]
  intro hh; omega
theorem PV.sliceL {t el sz : Nat} [hs : SlOf P t el sz] {x y : Operand} {ad : Option Addr} {n cap : Nat} {lo : Int} (hx : evE e x = some (.slice ad n cap)) (hy : evE e y = some (.int .i64 lo)) (h0 : 0 ≤ lo ∧ lo ≤ n) :
    PV P e l H ⟨dst, .slice t x (some y) none none, ty, pos, after, gd⟩ (slV sz ad lo.toNat n cap) := PV.mk fun X D a w ha hw => by
  simp [execOp, ha.eval hx, ha.eval hy, Instr.sliceAt, Instr.slice, Instr.sliceBounds, Instr.sliceBound, asIntOf, run_underlying hs.h, hs.s, h0, slV]
theorem PV.sliceH {t el sz : Nat} [hs : SlOf P t el sz] {x z : Operand} {ad : Option Addr} {n cap : Nat} {hi : Int} (hx : evE e x = some (.slice ad n cap)) (hz : evE e z = some (.int .i64 hi)) (h0 : 0 ≤ hi ∧ hi ≤ cap) :
    PV P e l H ⟨dst, .slice t x none (some z) none, ty, pos, after, gd⟩ (.slice ad hi.toNat cap) := PV.mk fun X D a w ha hw => by
  have e3 : ∀ a : Addr, a.add 0 = a := by intro a; unfold Addr.add; split <;> simp_all
  simp [execOp, ha.eval hx, ha.eval hz, Instr.sliceAt, Instr.slice, Instr.sliceBounds, Instr.sliceBound, asIntOf, run_underlying hs.h, hs.s, h0, e3]
theorem PV.sliceHM {t el sz : Nat} [hs : SlOf P t el sz] {x z u : Operand} {ad : Option Addr} {n cap : Nat} {hi mx : Int} (hx : evE e x = some (.slice ad n cap)) (hz : evE e z = some (.int .i64 hi)) (hu : evE e u = some (.int .i64 mx)) (h0 : 0 ≤ hi ∧ hi ≤ mx ∧ mx ≤ cap) :
    PV P e l H ⟨dst, .slice t x none (some z) (some u), ty, pos, after, gd⟩ (.slice ad hi.toNat mx.toNat) := PV.mk fun X D a w ha hw => by
  have e1 : 0 ≤ mx ∧ mx ≤ (cap : Int) := by omega
  have e2 : 0 ≤ hi ∧ hi ≤ (mx.toNat : Int) := by omega
  have e3 : ∀ a : Addr, a.add 0 = a := by intro a; unfold Addr.add; split <;> simp_all
  simp [execOp, ha.eval hx, ha.eval hz, ha.eval hu, Instr.sliceAt, Instr.slice, Instr.sliceBounds, Instr.sliceBound, asIntOf, run_underlying hs.h, hs.s, e1, e2, e3]
  intro hh; omega

theorem PV.sliceLP {t el sz : Nat} [hs : SlOf P t el sz] {x y : Operand} {b o n cap : Nat} {lo : Int} (hx : evE e x = some (.slice (some ⟨b, o, none⟩) n cap)) (hy : evE e y = some (.int .i64 lo)) (h0 : 0 ≤ lo ∧ lo ≤ n ∧ lo < cap) :
    PV P e l H ⟨dst, .slice t x (some y) none none, ty, pos, after, gd⟩ (.slice (some ⟨b, o + lo.toNat * sz, none⟩) (n - lo.toNat) (cap - lo.toNat)) := by
  have h := PV.sliceL (P := P) (l := l) (H := H) (dst := dst) (ty := ty) (pos := pos) (after := after) (gd := gd) (t := t) (el := el) (sz := sz) hx hy ⟨h0.1, h0.2.1⟩
  unfold slV at h
  rw [if_neg (by omega)] at h
  simpa [addr_add] using h
theorem PV.sliceLHP {t el sz : Nat} [hs : SlOf P t el sz] {x y z : Operand} {b o n cap : Nat} {lo hi : Int} (hx : evE e x = some (.slice (some ⟨b, o, none⟩) n cap)) (hy : evE e y = some (.int .i64 lo)) (hz : evE e z = some (.int .i64 hi)) (h0 : 0 ≤ lo ∧ lo ≤ hi ∧ hi ≤ cap ∧ lo < cap) :
    PV P e l H ⟨dst, .slice t x (some y) (some z) none, ty, pos, after, gd⟩ (.slice (some ⟨b, o + lo.toNat * sz, none⟩) (hi.toNat - lo.toNat) (cap - lo.toNat)) := by
  have h := PV.sliceLH (P := P) (l := l) (H := H) (dst := dst) (ty := ty) (pos := pos) (after := after) (gd := gd) (t := t) (el := el) (sz := sz) hx hy hz ⟨h0.1, h0.2.1, h0.2.2.1⟩
  unfold slV at h
  rw [if_neg (by omega)] at h
  simpa [addr_add] using h
theorem SlR.slice {sz : Nat} {ad : Option Addr} {n cap : Nat} {xs : List Value} (h : SlR H sz (.slice ad n cap) n xs) {lo hi : Nat} (h1 : lo ≤ hi) (h2 : hi ≤ n) : SlR H sz (slV sz ad lo hi cap) (hi - lo) ((xs.drop (lo * sz)).take ((hi - lo) * sz)) := by
  have hl : ((xs.drop (lo * sz)).take ((hi - lo) * sz)).length = (hi - lo) * sz := by
    rw [List.length_take, List.length_drop, h.1]
    have : hi * sz ≤ n * sz := Nat.mul_le_mul_right _ h2
    rw [Nat.sub_mul]; omega
  refine ⟨hl, ?_⟩
  rcases h.2 with ⟨_, rfl⟩ | ⟨b, off, cap', cs, t, fz, hv, hb, hx, hcap⟩
  · left
    have e1 : hi = 0 := by omega
    have e2 : lo = 0 := by omega
    subst e1 e2
    exact ⟨⟨_, _, rfl⟩, rfl⟩
  · injection hv with e1 e2 e3
    subst e1 e3
    by_cases hc : cap = lo
    · have hz : hi - lo = 0 := by omega
      left; rw [hz]; exact ⟨⟨_, _, by unfold slV; rw [hz]⟩, rfl⟩
    · right
      refine ⟨b, off + lo * sz, cap - lo, cs, t, fz, ?_, hb, ?_, by omega⟩
      · unfold slV; rw [if_neg hc]; simp [addr_add]
      · rw [← hx, ← List.drop_drop, List.drop_take, List.take_take]
        congr 1
        rw [← Nat.sub_mul]
        exact (Nat.min_eq_left (Nat.mul_le_mul_right _ (by omega))).symm
theorem T.stepV0 {o : Oper} (hw : Wanted e all o) (hd : o.dst = none)
    (h : ∀ a w, Ea X e D a → Wd X l H w → ∃ v l' H' w', (execOp a.eval o).run P w = .ok (.value v) w' ∧ Wd X l' H' w' ∧ T P X e l' H' D (.ops all rest :: k)) :
    T P X e l H D (.ops all (o :: rest) :: k) := T.mk fun a w ha hw' => by
  refine wpList_cons (hw.get X D a ha) ?_
  obtain ⟨v, l', H', w', h1, h2, h3⟩ := h a w ha hw'
  rw [run_semAt h1 (fun _ => by simp), Oper.uponIn_value, hd]
  exact h3.get _ w' ha h2
/-- clear(s), of a slice in a block of the walk's own. -/
theorem T.clearOwn {t el sz : Nat} [hs : SlOf P t el sz] {z : List Value} [hz : ZeroOf P el z] {x : Operand} {b o n cap t' : Nat} {cs : List Value} (al : List (Nat × Obj)) {bl : List (Nat × Obj)}
    (hw : Wanted e all ⟨none, .call ⟨.builtin .clear, #[x], #[t]⟩, ty, pos, after, gd⟩) (hx : evE e x = some (.slice (some ⟨b, o, none⟩) n cap)) (hzl : Nat.beq z.length sz = true) (hsz : Nat.blt 0 sz = true) (hz1 : AllOne z) (hfit : o + n * sz ≤ cs.length)
    (h : ∀ zs : List Value, zs.length = n * sz → T P X e (al ++ (b, .cells (cs.take o ++ zs ++ cs.drop (o + n * sz)).toArray t' (0, 0)) :: bl) H D (.ops all rest :: k)) :
    T P X e (al ++ (b, .cells cs.toArray t' (0, 0)) :: bl) H D (.ops all (⟨none, .call ⟨.builtin .clear, #[x], #[t]⟩, ty, pos, after, gd⟩ :: rest) :: k) :=
  T.stepV0 hw rfl fun a w ha hw' => by
    obtain ⟨zv, hz2, hz3⟩ := hz.h
    have hzl' := Nat.eq_of_beq_eq_true hzl
    have hsz' : 0 < sz := by simpa using hsz
    have hm : (b, Obj.cells cs.toArray t' (0, 0)) ∈ al ++ (b, Obj.cells cs.toArray t' (0, 0)) :: bl := by simp
    have hb := (hw'.own _ hm).1
    simp only at hb
    by_cases h0 : n = 0
    · subst h0
      refine ⟨.tuple #[], _, H, w, ?_, hw', ?_⟩
      · simp [execOp, resolve, invoke, builtin, ha.eval hx, Builtin.clear_, run_underlying hs.h]
      · have := h [] (by simp)
        simpa using this
    · obtain ⟨zs, hzs⟩ : ∃ zs, (Builtin.zeroCells zv.cells n).toList = zs := ⟨_, rfl⟩
      have hlen : zs.length = n * sz := by rw [← hzs]; simp [Builtin.zeroCells, hz3, hzl']
      have hone : ∀ v ∈ zs, v.oneCell' = true := by
        rw [← hzs]
        intro v hv
        simp only [Builtin.zeroCells, hz3, List.size_toArray, Array.toList_map, List.mem_map] at hv
        obtain ⟨i, _, rfl⟩ := hv
        have hlt : i % z.length < z.length := Nat.mod_lt _ (by omega)
        rw [getElem!_pos _ _ (by simpa using hlt)]
        exact AllOne.spec hz1 _ (by simp)
      have hst := run_storeCells_at (P := P) (w := w) (t := t') zs cs o 0 w hb (by rw [hlen]; simpa using hfit) hone
      simp only [Nat.add_zero, hlen] at hst
      refine ⟨.tuple #[], _, H, w.putObj b (.cells (cs.take o ++ zs ++ cs.drop (o + n * sz)).toArray t' (0, 0)), ?_, hw'.upd (Upd.app (x := al) (Upd.head (l := bl))), h zs hlen⟩
      simp [execOp, resolve, invoke, builtin, ha.eval hx, Builtin.clear_, run_underlying hs.h, hz2, hzs, h0]
      rw [hst]; simp
theorem range_rep {s : Nat} {z : List Value} (hz : z.length = s) : ∀ n : Nat, (List.range (n * s)).map (fun i => z[i % s]!) = (List.replicate n z).flatten
  | 0 => by simp
  | n + 1 => by
    have h1 := range_rep hz n
    rw [Nat.add_mul, Nat.one_mul, List.range_add, List.map_append, h1, List.replicate_succ', List.flatten_concat]
    congr 1
    rw [List.map_map]
    refine List.ext_getElem? fun i => ?_
    rw [List.getElem?_map]
    by_cases hi : i < s
    · rw [List.getElem?_range hi, Option.map_some]
      have : (n * s + i) % s = i := by rw [Nat.add_comm, Nat.add_mul_mod_self_right]; exact Nat.mod_eq_of_lt hi
      show some (z[(n * s + i) % s]!) = _
      rw [this, List.getElem?_eq_getElem (by omega), getElem!_pos z i (by omega)]
    · rw [List.getElem?_eq_none (by simp; omega), List.getElem?_eq_none (by omega)]; rfl
theorem T.makeSliceN {t el sz bytes d : Nat} [hs : SlOf P t el sz] [he : ElOf P el sz bytes] {z : List Value} [hzo : ZeroOf P el z] {x y : Operand} {n : Nat}
    (hw : Wanted e all ⟨some d, .makeSlice t x y, ty, pos, after, gd⟩) (hN : Nat.blt d X.N = true) (hx : evE e x = some (.int .i64 (n : Int))) (hy : evE e y = some (.int .i64 (n : Int))) (hc : (n : Int) ≤ 140737488355328 ∧ (bytes : Int) * n ≤ 140737488355328)
    (h : ∀ v lv, Vec el sz v lv n (List.replicate n z).flatten → T P X ((d, v) :: e) (lv ++ l) H D (.ops all rest :: k)) :
    T P X e l H D (.ops all (⟨some d, .makeSlice t x y, ty, pos, after, gd⟩ :: rest) :: k) :=
  T.step hw rfl hN fun a w ha hw' => by
    obtain ⟨i, z1, hi, hz, hsz, hby, hzs, hpos⟩ := he.h
    obtain ⟨zv, hz2, hz3⟩ := hzo.h
    have hzz : z1 = zv := by
      have h1 := hz2 w
      simp [zeroValue, typeInfo, hi, hz] at h1
      exact h1
    subst hzz
    have hzl : z.length = i.size := by rw [hsz, ← hzs, hz3]; simp
    have hwr : IntKind.i64.wrap (n : Int) = n := wrap64_id (by omega)
    subst hsz hby
    have hb1 : ¬ (281474976710656 < (i.bytes : Int) * n) := by omega
    have hb2 : ¬ ((n : Int) < 0) := by omega
    have hcs : (if n * i.size = 0 then (#[] : Array Value) else ((Array.range (n * i.size)).map (z1.cells[· % z1.cells.size]!))) = ((List.replicate n z).flatten).toArray := by
      split
      · rename_i h0
        have : n = 0 := by
          rcases Nat.mul_eq_zero.1 h0 with h | h
          · exact h
          · omega
        subst this; rfl
      · rw [← range_rep hzl n, hz3]
        apply Array.ext'
        simp [hzl]
    have hcl : ((List.replicate n z).flatten).length = n * i.size := by
      rw [← range_rep hzl n]; simp
    refine ⟨.slice (some ⟨w.heap.size, 0, none⟩) n n, [(w.heap.size, .cells ((List.replicate n z).flatten).toArray el)] ++ l, H, w.alloc (.cells ((List.replicate n z).flatten).toArray el), ?_, hw'.alloc _, h _ _ ⟨hcl, .inr ⟨_, n, _, rfl, rfl, Nat.le_refl _, by unfold maxLen; omega, hcl, by rw [← hcl]; exact List.take_length⟩⟩⟩
    simp [execOp, Instr.makeSlice, ha.eval hx, ha.eval hy, run_underlying hs.h, asInt, asIntOf, typeInfo, hi, hwr, hb1, hb2, sizeOf]
    by_cases h0 : n * i.size = 0
    · rw [if_pos h0] at hcs
      simp [h0, newRow, ← hcs, show Array.range 0 = #[] from rfl]
    · rw [if_neg h0] at hcs
      simp [h0, newRow, zeroValue, typeInfo, hi, hz, ← hcs]
end
end Go.Proofs.Ytceaicameojcaaa
