/- match: states and keys of what is known: how they are compared.
   the statement Regions, plain: spans from a begin of a region to an end in one text. -/
import Derived.LaidEql
import Derived.Test.YtbcadnjfegiakaaGreatDoorGP
import Derived.Test.YtbcadnjfegiakaaGreatDoorGR
namespace Go.Proofs.YtbcadnjfegiakaaGreatDoor
open Go.RowKit


/-- a state without labels -/
def stV (a : Int) : Value := .agg #[.int .i64 a, .int .i64 0, .int .i64 0, .int .i64 0]
/-- a part of a pattern and a state -/
def kyPV (p : Addr) (a : Int) : Value := .agg #[.pointer (some p), .int .i64 a, .int .i64 0, .int .i64 0, .int .i64 0]
/-- the fields of a struct: their types, and where they begin -/
inductive Flds : List Field → List (TypeId × Nat) → Prop
  | nil : Flds [] []
  | cons {f fs t o ts} (ht : f.type = t) (ho : f.offset = o) (hn : f.name ≠ "_") (h : Flds fs ts) : Flds (f :: fs) ((t, o) :: ts)
section
variable {P : Program} {w : World}
theorem eqF_cons {d : Nat} {xs ys : Array Value} {f : Field} {fs : List Field} {a b : Value} {r : Bool} (hn : f.name ≠ "_") (ha : (part f.type xs f.offset).run P w = .ok a w) (hb : (part f.type ys f.offset).run P w = .ok b w) (hr : (Op.equalIn d f.type a b).run P w = .ok r w) :
    (Op.eqFields d xs ys (f :: fs)).run P w = if r = true then (Op.eqFields d xs ys fs).run P w else .ok false w := by
  have e : Op.eqFields d xs ys (f :: fs) = (if f.name ≠ "_" then do
      let a ← part f.type xs f.offset
      let b ← part f.type ys f.offset
      let r ← Op.equalIn d f.type a b
      if (!r) = true then pure false else Op.eqFields d xs ys fs
    else Op.eqFields d xs ys fs) := rfl
  rw [e]
  simp only [hn, ne_eq, not_false_eq_true, if_true, Sem.run_bind, ha, hb, hr, Result.andThen_ok]
  cases r <;> simp
theorem ck_cons {em : Bool} {d : Nat} {xs : Array Value} {f : Field} {fs : List Field} {a : Value} (hn : f.name ≠ "_") (ha : (part f.type xs f.offset).run P w = .ok a w) (hc : (Instr.checkKey em d f.type a).run P w = .ok () w)
    (h : (forIn (m := Sem) fs PUnit.unit fun f _ =>
      if f.name ≠ "_" then do
        let a ← part f.type xs f.offset
        Instr.checkKey em d f.type a
        pure (ForInStep.yield PUnit.unit)
      else pure (ForInStep.yield PUnit.unit)).run P w = .ok PUnit.unit w) :
    (forIn (m := Sem) (f :: fs) PUnit.unit fun f _ =>
      if f.name ≠ "_" then do
        let a ← part f.type xs f.offset
        Instr.checkKey em d f.type a
        pure (ForInStep.yield PUnit.unit)
      else pure (ForInStep.yield PUnit.unit)).run P w = .ok PUnit.unit w := by
  simp only [List.forIn_cons, Sem.run_bind, hn, ne_eq, not_false_eq_true, if_true, Result.andThen_ok, ha, hc, Sem.run_pure]
  exact h
end
set_option maxRecDepth 100000 in
theorem flds_st : Flds (Tryz.prog.fieldsOf 146).toList [(3, 0), (144, 1)] :=
  .cons (by kernel_rfl) (by kernel_rfl) (of_decide_eq_true (by kernel_rfl)) (.cons (by kernel_rfl) (by kernel_rfl) (of_decide_eq_true (by kernel_rfl)) .nil)
set_option maxRecDepth 100000 in
theorem flds_ky : Flds (Tryz.prog.fieldsOf 210).toList [(143, 0), (146, 1)] :=
  .cons (by kernel_rfl) (by kernel_rfl) (of_decide_eq_true (by kernel_rfl)) (.cons (by kernel_rfl) (by kernel_rfl) (of_decide_eq_true (by kernel_rfl)) .nil)
theorem run_partInt {w : World} {xs : Array Value} {o : Nat} {v : Value} (h : xs[o]? = some v) : (part 3 xs o).run Tryz.prog w = .ok v w := by
  have h1 : ∀ w, (isAgg 3).run Tryz.prog w = .ok false w := fun w => Tryz.isAgg3 w
  simp [part, h1, h, Result.andThen]
theorem arr_eq (d : Nat) (w : World) : (Op.equalIn (d + 2) 144 (.agg #[.int .i64 0, .int .i64 0, .int .i64 0]) (.agg #[.int .i64 0, .int .i64 0, .int .i64 0])).run Tryz.prog w = .ok true w := by
  have hu : Tryz.prog.underlying 144 = some (.array 3 3) := by kernel_rfl
  have hi := fun a b => run_equalIn_int (P := Tryz.prog) w d 3 .i64 .i64 a b (by kernel_rfl)
  have hs : ∀ w, (sizeOf 3).run Tryz.prog w = .ok 1 w := fun w => Tryz.sizeOf3 w
  have p0 := run_partInt (w := w) (xs := #[.int .i64 0, .int .i64 0, .int .i64 0]) (o := 0) (v := .int .i64 0) rfl
  have p1 := run_partInt (w := w) (xs := #[.int .i64 0, .int .i64 0, .int .i64 0]) (o := 1) (v := .int .i64 0) rfl
  have p2 := run_partInt (w := w) (xs := #[.int .i64 0, .int .i64 0, .int .i64 0]) (o := 2) (v := .int .i64 0) rfl
  rw [show d + 2 = (d + 1) + 1 from rfl]
  simp [Op.equalIn, run_underlying hu, Std.Legacy.Range.forIn_eq_forIn_range', Std.Legacy.Range.size, List.range', hs, p0, p1, p2, hi, Result.andThen]
theorem part_arr (w : World) (xs : List Value) (o : Nat) : (part 144 xs.toArray o).run Tryz.prog w = .ok (.agg ((xs.drop o).take 3).toArray) w := by
  have h1 : ∀ w, (isAgg 144).run Tryz.prog w = .ok true w := fun w => by kernel_rfl
  have hs : ∀ w, (sizeOf 144).run Tryz.prog w = .ok 3 w := fun w => by kernel_rfl
  simp [part, h1, hs, Result.andThen]
theorem part_st (w : World) (xs : List Value) (o : Nat) : (part 146 xs.toArray o).run Tryz.prog w = .ok (.agg ((xs.drop o).take 4).toArray) w := by
  have h1 : ∀ w, (isAgg 146).run Tryz.prog w = .ok true w := fun w => by kernel_rfl
  have hs : ∀ w, (sizeOf 146).run Tryz.prog w = .ok 4 w := fun w => by kernel_rfl
  simp [part, h1, hs, Result.andThen]
theorem part_ptr {w : World} {xs : Array Value} {o : Nat} {v : Value} (h : xs[o]? = some v) : (part 143 xs o).run Tryz.prog w = .ok v w := by
  have h1 : ∀ w, (isAgg 143).run Tryz.prog w = .ok false w := fun w => by kernel_rfl
  simp [part, h1, h, Result.andThen]
theorem st_eqIn (d : Nat) (w : World) (a b : Int) : (Op.equalIn (d + 4) 146 (stV a) (stV b)).run Tryz.prog w = .ok (decide (a = b)) w := by
  unfold stV
  rw [show d + 4 = (d + 3) + 1 from rfl, run_equalIn_struct w (d + 3) 146 _ _ (by kernel_rfl) (by kernel_rfl)]
  have h := flds_st
  generalize (Tryz.prog.fieldsOf 146).toList = fs at h ⊢
  cases h with
  | cons ht ho hn h =>
    cases h with
    | cons ht2 ho2 hn2 h =>
      cases h
      rw [eqF_cons (a := .int .i64 a) (b := .int .i64 b) (r := a == b) hn (by rw [ht, ho]; exact run_partInt rfl) (by rw [ht, ho]; exact run_partInt rfl) (by rw [ht]; exact run_equalIn_int w (d + 2) _ .i64 .i64 a b (by kernel_rfl))]
      by_cases e : a = b
      · subst e
        rw [beq_self_eq_true, if_pos rfl, decide_eq_true rfl]
        rw [eqF_cons (a := .agg #[.int .i64 0, .int .i64 0, .int .i64 0]) (b := .agg #[.int .i64 0, .int .i64 0, .int .i64 0]) (r := true) hn2 (by rw [ht2, ho2]; exact part_arr w [.int .i64 a, .int .i64 0, .int .i64 0, .int .i64 0] 1) (by rw [ht2, ho2]; exact part_arr w [.int .i64 a, .int .i64 0, .int .i64 0, .int .i64 0] 1) (by rw [ht2]; exact arr_eq (d + 1) w), if_pos rfl]
        simp [Op.eqFields]
      · rw [beq_eq_false_iff_ne.2 e, if_neg (by simp), decide_eq_false e]
theorem arr_chk (n : Nat) (em : Bool) (w : World) : (Instr.checkKey em (n + 2) 144 (.agg #[.int .i64 0, .int .i64 0, .int .i64 0])).run Tryz.prog w = .ok () w := by
  have hu : Tryz.prog.underlying 144 = some (.array 3 3) := by kernel_rfl
  have hi : Tryz.prog.underlying 3 = some (.int .i64) := by kernel_rfl
  have hs : ∀ w, (sizeOf 3).run Tryz.prog w = .ok 1 w := fun w => Tryz.sizeOf3 w
  have p0 := run_partInt (w := w) (xs := #[.int .i64 0, .int .i64 0, .int .i64 0]) (o := 0) (v := .int .i64 0) rfl
  have p1 := run_partInt (w := w) (xs := #[.int .i64 0, .int .i64 0, .int .i64 0]) (o := 1) (v := .int .i64 0) rfl
  have p2 := run_partInt (w := w) (xs := #[.int .i64 0, .int .i64 0, .int .i64 0]) (o := 2) (v := .int .i64 0) rfl
  have hc : (Instr.checkKey em (n + 1) 3 (.int .i64 0)).run Tryz.prog w = .ok () w := by simp [Instr.checkKey, run_underlying hi, Result.andThen]
  rw [show n + 2 = (n + 1) + 1 from rfl, Instr.checkKey]
  simp [run_underlying hu, Std.Legacy.Range.forIn_eq_forIn_range', Std.Legacy.Range.size, List.range', hs, p0, p1, p2, hc, Result.andThen]
theorem st_chk (n : Nat) (em : Bool) (w : World) (a : Int) : (Instr.checkKey em (n + 3) 146 (stV a)).run Tryz.prog w = .ok () w := by
  have hu : Tryz.prog.underlying 146 = some (.struct (Tryz.prog.fieldsOf 146)) := by kernel_rfl
  have hi : Tryz.prog.underlying 3 = some (.int .i64) := by kernel_rfl
  unfold stV
  rw [show n + 3 = (n + 2) + 1 from rfl, Instr.checkKey]
  simp only [Sem.run_bind, run_underlying hu, Result.andThen_ok]
  rw [← Array.forIn_toList]
  have h := flds_st
  generalize (Tryz.prog.fieldsOf 146).toList = fs at h ⊢
  cases h with
  | cons ht ho hn h =>
    cases h with
    | cons ht2 ho2 hn2 h =>
      cases h
      rw [ck_cons (a := .int .i64 a) hn (by rw [ht, ho]; exact run_partInt rfl) (by rw [ht]; simp [Instr.checkKey, run_underlying hi, Result.andThen])
        (ck_cons (a := .agg #[.int .i64 0, .int .i64 0, .int .i64 0]) hn2 (by rw [ht2, ho2]; exact part_arr w [.int .i64 a, .int .i64 0, .int .i64 0, .int .i64 0] 1) (by rw [ht2]; exact arr_chk n em w) (by simp))]
      simp
theorem st_key (H : Hp) : KeyEq Tryz.prog 146 stV H where
  wide := by kernel_rfl
  eq w _ a b := st_eqIn 9996 w a b
  chk w em a := st_chk 9997 em w a
  bits a := by simp [stV, Instr.sameBits]
/-! ### the parts of the pattern -/
inductive Pid where
  | s | b | r | e | t
  deriving DecidableEq
def Pid.ad (bq bs bt : Nat) : Pid → Addr
  | .s => ⟨bq, 0, none⟩
  | .b => ⟨bs, 0, none⟩
  | .r => ⟨bs, 0 + 1 * 13, none⟩
  | .e => ⟨bs, 0 + 2 * 13, none⟩
  | .t => ⟨bt, 0, none⟩
/-- the query in memory -/
structure QuR (H : Hp) (kind : ByteArray) (bq bs bt : Nat) : Prop where
  q : ∃ t fa fn fc, H bq = some (.cells (quC bs fa fn fc).toArray t (0, 0))
  p : PtR H kind bs bt
theorem QuR.mono {H H' : Hp} {kind : ByteArray} {bq bs bt : Nat} (h : QuR H kind bq bs bt) (hl : H.le H') : QuR H' kind bq bs bt :=
  ⟨by obtain ⟨t, fa, fn, fc, h⟩ := h.q; exact ⟨t, fa, fn, fc, hl _ _ h⟩, h.p.mono hl⟩
theorem QuR.ne {H : Hp} {kind : ByteArray} {bq bs bt : Nat} (h : QuR H kind bq bs bt) : bq ≠ bs ∧ bq ≠ bt ∧ bs ≠ bt := by
  obtain ⟨t, fa, fn, fc, h1⟩ := h.q
  obtain ⟨t2, h2⟩ := h.p.s
  obtain ⟨t3, h3⟩ := h.p.t
  have key : ∀ {b : Nat} {x y : List Value} {t t' : TypeId}, H b = some (.cells x.toArray t (0, 0)) → H b = some (.cells y.toArray t' (0, 0)) → x.length = y.length := fun h h' => by
    have := h.symm.trans h'
    simp only [Option.some.injEq, Obj.cells.injEq] at this
    have := congrArg Array.size this.1
    simpa using this
  have l1 : (quC bs fa fn fc).length = 26 := rfl
  have l2 : ([pB kind, pR bt, pE kind].flatMap encPn).length = 3 * 13 := flatP_len _
  have l3 : (encPn pT).length = 13 := rfl
  refine ⟨fun e => ?_, fun e => ?_, fun e => ?_⟩
  · subst e; have := key h1 h2; rw [l1, l2] at this; omega
  · subst e; have := key h1 h3; rw [l1, l3] at this; omega
  · subst e; have := key h2 h3; rw [l2, l3] at this; omega
theorem QuR.cells {H : Hp} {kind : ByteArray} {bq bs bt : Nat} (h : QuR H kind bq bs bt) (p : Pid) : ∃ c t, H (p.ad bq bs bt).block = some (.cells c t (0, 0)) := by
  obtain ⟨t, fa, fn, fc, h1⟩ := h.q
  obtain ⟨t2, h2⟩ := h.p.s
  obtain ⟨t3, h3⟩ := h.p.t
  cases p
  · exact ⟨_, _, h1⟩
  · exact ⟨_, _, h2⟩
  · exact ⟨_, _, h2⟩
  · exact ⟨_, _, h2⟩
  · exact ⟨_, _, h3⟩
theorem QuR.inj {H : Hp} {kind : ByteArray} {bq bs bt : Nat} (h : QuR H kind bq bs bt) {p q : Pid} (hpq : p.ad bq bs bt = q.ad bq bs bt) : p = q := by
  obtain ⟨n1, n2, n3⟩ := h.ne
  cases p <;> cases q <;> first | rfl | (exfalso; simp [Pid.ad] at hpq; done) | (exfalso; simp [Pid.ad] at hpq; omega)
theorem ptr_same (d : Nat) (w : World) (p : Addr) : (Op.equalIn (d + 1) 143 (.pointer (some p)) (.pointer (some p))).run Tryz.prog w = .ok true w := by
  have hpu : Tryz.prog.underlying 143 = some (.pointer 38) := by kernel_rfl
  have hsz : ∀ w, (sizeOf 38).run Tryz.prog w = .ok 13 w := fun w => by kernel_rfl
  simp [Op.equalIn, run_underlying hpu, hsz, run_sameAddr_same, Result.andThen]
theorem ptr_other (d : Nat) (w : World) (p q : Addr) (h : (sameAddr p q).run Tryz.prog w = .ok false w) : (Op.equalIn (d + 1) 143 (.pointer (some p)) (.pointer (some q))).run Tryz.prog w = .ok false w := by
  have hpu : Tryz.prog.underlying 143 = some (.pointer 38) := by kernel_rfl
  have hsz : ∀ w, (sizeOf 38).run Tryz.prog w = .ok 13 w := fun w => by kernel_rfl
  simp [Op.equalIn, run_underlying hpu, hsz, h, Result.andThen]
theorem ptr_chk (n : Nat) (em : Bool) (w : World) (p : Addr) : (Instr.checkKey em (n + 1) 143 (.pointer (some p))).run Tryz.prog w = .ok () w := by
  have hpu : Tryz.prog.underlying 143 = some (.pointer 38) := by kernel_rfl
  simp [Instr.checkKey, run_underlying hpu, Result.andThen]
abbrev Kk := Pid × Int
def kkV (bq bs bt : Nat) (x : Kk) : Value := kyPV (x.1.ad bq bs bt) x.2
theorem ky_key {H : Hp} {kind : ByteArray} {bq bs bt : Nat} (h : QuR H kind bq bs bt) : KeyEq Tryz.prog 210 (kkV bq bs bt) H where
  wide := by kernel_rfl
  eq w hw x y := by
    obtain ⟨p, a⟩ := x
    obtain ⟨q, b⟩ := y
    show (Op.equalIn (9999 + 1) 210 (kyPV (p.ad bq bs bt) a) (kyPV (q.ad bq bs bt) b)).run Tryz.prog w = _
    unfold kyPV
    rw [run_equalIn_struct w 9999 210 _ _ (by kernel_rfl) (by kernel_rfl)]
    have hf := flds_ky
    generalize (Tryz.prog.fieldsOf 210).toList = fs at hf ⊢
    have hptr : (Op.equalIn (9998 + 1) 143 (.pointer (some (p.ad bq bs bt))) (.pointer (some (q.ad bq bs bt)))).run Tryz.prog w = .ok (decide (p = q)) w := by
      by_cases e : p = q
      · subst e
        rw [decide_eq_true rfl]
        exact ptr_same 9998 w _
      · rw [decide_eq_false e]
        obtain ⟨c1, t1, h1⟩ := h.cells p
        obtain ⟨c2, t2, h2⟩ := h.cells q
        have hsa := run_sameAddr_other (P := Tryz.prog) w (fun hh => e (h.inj hh)) (hw _ _ h1) (hw _ _ h2)
        exact ptr_other 9998 w _ _ hsa
    cases hf with
    | cons ht ho hn hf =>
      cases hf with
      | cons ht2 ho2 hn2 hf =>
        cases hf
        rw [eqF_cons (r := decide (p = q)) hn (by rw [ht, ho]; exact part_ptr rfl) (by rw [ht, ho]; exact part_ptr rfl) (by rw [ht]; exact hptr)]
        by_cases e : p = q
        · subst e
          rw [decide_eq_true rfl, if_pos rfl]
          rw [eqF_cons (a := stV a) (b := stV b) (r := decide (a = b)) hn2 (by rw [ht2, ho2]; exact part_st w [_, .int .i64 a, .int .i64 0, .int .i64 0, .int .i64 0] 1) (by rw [ht2, ho2]; exact part_st w [_, .int .i64 b, .int .i64 0, .int .i64 0, .int .i64 0] 1) (by rw [ht2]; exact st_eqIn 9995 w a b)]
          by_cases e2 : a = b
          · subst e2
            simp [Op.eqFields]
          · rw [decide_eq_false e2, if_neg (by simp)]
            simp [e2]
        · rw [decide_eq_false e, if_neg (by simp)]
          simp [e]
  chk w em x := by
    obtain ⟨p, a⟩ := x
    have hu : Tryz.prog.underlying 210 = some (.struct (Tryz.prog.fieldsOf 210)) := by kernel_rfl
    show (Instr.checkKey em (9999 + 1) 210 (kyPV (p.ad bq bs bt) a)).run Tryz.prog w = _
    unfold kyPV
    rw [Instr.checkKey]
    simp only [Sem.run_bind, run_underlying hu, Result.andThen_ok]
    rw [← Array.forIn_toList]
    have hf := flds_ky
    generalize (Tryz.prog.fieldsOf 210).toList = fs at hf ⊢
    cases hf with
    | cons ht ho hn hf =>
      cases hf with
      | cons ht2 ho2 hn2 hf =>
        cases hf
        rw [ck_cons (a := .pointer (some (p.ad bq bs bt))) hn (by rw [ht, ho]; exact part_ptr rfl) (by rw [ht]; exact ptr_chk 9998 em w _)
          (ck_cons (a := stV a) hn2 (by rw [ht2, ho2]; exact part_st w [_, .int .i64 a, .int .i64 0, .int .i64 0, .int .i64 0] 1) (by rw [ht2]; exact st_chk 9996 em w a) (by simp))]
        simp
  bits x := by simp [kkV, kyPV, Instr.sameBits]

end Go.Proofs.YtbcadnjfegiakaaGreatDoor
namespace Go.Proofs.YtbcadnjfegiakaaGreatDoor
open Go.RowKit

theorem chain_le : ∀ (l : List Rg) (z n : Int), txChain z l n → z ≤ n ∧ ∀ t ∈ l, z ≤ t.b ∧ t.b < t.e ∧ t.e ≤ n
  | [], z, n, h => by
    have h : z = n := h
    exact ⟨by omega, by simp⟩
  | t :: l, z, n, h => by
    obtain ⟨h1, h2, h3⟩ := h
    obtain ⟨i1, i2⟩ := chain_le l t.e n h3
    refine ⟨by omega, fun u hu => ?_⟩
    rcases List.mem_cons.1 hu with rfl | hu
    · omega
    · have := i2 u hu; omega
theorem chain_at : ∀ (l : List Rg) (z n p : Int), txChain z l n → z ≤ p → p < n → ∃ (i : Nat) (t : Rg), l[i]? = some t ∧ inT p t = true ∧ ∀ j u, l[j]? = some u → inT p u = true → j = i
  | [], z, n, p, h, h1, h2 => by
    have h : z = n := h
    omega
  | t :: l, z, n, p, h, h1, h2 => by
    obtain ⟨a1, a2, a3⟩ := h
    obtain ⟨-, i2⟩ := chain_le l t.e n a3
    by_cases hp : p < t.e
    · refine ⟨0, t, rfl, by unfold inT; simp; omega, fun j u hj hu => ?_⟩
      cases j with
      | zero => rfl
      | succ j =>
        have := i2 u (List.mem_of_getElem? (by simpa using hj))
        unfold inT at hu
        simp at hu
        omega
    · obtain ⟨i, u, b1, b2, b3⟩ := chain_at l t.e n p a3 (by omega) h2
      refine ⟨i + 1, u, by simpa using b1, b2, fun j v hj hv => ?_⟩
      cases j with
      | zero =>
        obtain rfl : t = v := by simpa using hj
        unfold inT at hv
        simp at hv
        omega
      | succ j => have := b3 j v (by simpa using hj) hv; omega
/-- the text of a position -/
theorem textAt_eq {l : List Rg} {n p : Int} (h : txChain 0 l n) (h1 : 0 ≤ p) (h2 : p < n) : ∃ (i : Nat) (t : Rg), l[i]? = some t ∧ t.b ≤ p ∧ p < t.e ∧ ixI (inT p) l = (i : Int) := by
  obtain ⟨i, t, a1, a2, a3⟩ := chain_at l 0 n p h h1 h2
  refine ⟨i, t, a1, ?_, ?_, ?_⟩
  · unfold inT at a2; simp at a2; omega
  · unfold inT at a2; simp at a2; omega
  · rcases ixI_cases (inT p) l with ⟨_, b2⟩ | ⟨j, x, b1, b2, b3, _⟩
    · have : l.any (inT p) = true := List.any_eq_true.2 ⟨t, List.mem_of_getElem? a1, a2⟩
      rw [this] at b2; cases b2
    · rw [b1, a3 j x b2 b3]
theorem text_uniq {l : List Rg} {n : Int} (h : txChain 0 l n) {i j : Nat} {t u : Rg} (hi : l[i]? = some t) (hj : l[j]? = some u) {p : Int} (h1 : t.b ≤ p) (h2 : p < t.e) (h3 : u.b ≤ p) (h4 : p < u.e) : i = j := by
  have ht := (chain_le l 0 n h).2 t (List.mem_of_getElem? hi)
  obtain ⟨k, x, _, _, a3⟩ := chain_at l 0 n p h (by omega) (by omega)
  have e1 := a3 i t hi (by unfold inT; simp; omega)
  have e2 := a3 j u hj (by unfold inT; simp; omega)
  omega
theorem same_text {l : List Rg} {n : Int} (h : txChain 0 l n) {i : Nat} {t : Rg} (hi : l[i]? = some t) {b e : Int} (h1 : t.b ≤ b) (h2 : b < t.e) (h3 : b < e) (h4 : e ≤ n) :
    ixI (inT b) l = (i : Int) ∧ (ixI (inT b) l = ixI (inT (e - 1)) l ↔ e ≤ t.e) := by
  have ht := (chain_le l 0 n h).2 t (List.mem_of_getElem? hi)
  obtain ⟨j, u, a1, a2, a3, a4⟩ := textAt_eq h (p := b) (by omega) (by omega)
  obtain rfl := text_uniq h hi a1 h1 h2 a2 a3
  obtain ⟨k, v, b1, b2, b3, b4⟩ := textAt_eq h (p := e - 1) (by omega) (by omega)
  refine ⟨a4, ?_⟩
  rw [a4, b4]
  constructor
  · intro hk
    obtain rfl : i = k := by omega
    rw [hi] at b1
    obtain rfl := Option.some.inj b1
    omega
  · intro he
    have := text_uniq h hi b1 (p := e - 1) (by omega) (by omega) b2 b3
    omega
/-! ### anchors -/
def begB (l : List Rg) (kind : ByteArray) (b : Int) : Bool := l.any fun r => decide (r.ty = kind) && decide (r.b = b)
def endB (l : List Rg) (kind : ByteArray) (e : Int) : Bool := l.any fun r => decide (r.ty = kind) && decide (r.e = e)
def hldB (l : List Rg) (kind : ByteArray) (b e : Int) : Bool := l.any fun r => decide (r.ty = kind) && (decide (r.b ≤ b) && decide (e ≤ r.e))
/-- an anchor within a text -/
def anB (l : List Rg) (kind : ByteArray) (tb te s : Int) : Bool := l.any fun r => decide (r.ty = kind) && decide (r.b = s) && decide (tb ≤ r.b) && decide (r.e ≤ te)
def anE (l : List Rg) (kind : ByteArray) (tb te s : Int) : Bool := l.any fun r => decide (r.ty = kind) && decide (r.e = s) && decide (tb ≤ r.b) && decide (r.e ≤ te)
theorem anB_eq {c : Cp} (hg : cpGood c) (kind : ByteArray) {i : Nat} {t : Rg} (hi : c.tx[i]? = some t) {b : Int} (h1 : t.b ≤ b) (h2 : b < t.e) : anB c.rg kind t.b t.e b = begB c.rg kind b := by
  unfold anB begB
  rw [Bool.eq_iff_iff, List.any_eq_true, List.any_eq_true]
  constructor
  · rintro ⟨r, hr, h⟩
    simp at h
    exact ⟨r, hr, by simp [h.1.1]⟩
  · rintro ⟨r, hr, h⟩
    simp at h
    obtain ⟨u, hu, u1, u2, u3⟩ := hg.r r hr
    obtain ⟨j, hj⟩ := List.getElem?_of_mem hu
    obtain rfl := text_uniq hg.x hi hj h1 h2 (by omega) (by omega)
    rw [hi] at hj
    obtain rfl := Option.some.inj hj
    exact ⟨r, hr, by simp [h]; omega⟩
theorem anE_eq {c : Cp} (hg : cpGood c) (kind : ByteArray) {i : Nat} {t : Rg} (hi : c.tx[i]? = some t) {e : Int} (h1 : t.b < e) (h2 : e ≤ t.e) : anE c.rg kind t.b t.e e = endB c.rg kind e := by
  unfold anE endB
  rw [Bool.eq_iff_iff, List.any_eq_true, List.any_eq_true]
  constructor
  · rintro ⟨r, hr, h⟩
    simp at h
    exact ⟨r, hr, by simp [h.1.1]⟩
  · rintro ⟨r, hr, h⟩
    simp at h
    obtain ⟨u, hu, u1, u2, u3⟩ := hg.r r hr
    obtain ⟨j, hj⟩ := List.getElem?_of_mem hu
    obtain rfl := text_uniq hg.x hi hj (p := e - 1) (by omega) (by omega) (by omega) (by omega)
    rw [hi] at hj
    obtain rfl := Option.some.inj hj
    exact ⟨r, hr, by simp [h]; omega⟩
/-! ### the wanted spans, row by row -/
def wntB (c : Cp) (kind : ByteArray) (b e : Int) : Bool := begB c.rg kind b && endB c.rg kind e && decide (ixI (inT b) c.tx = ixI (inT (e - 1)) c.tx)
/-- the ends from b + 1 up to m -/
def rowW (p : Int → Int → Bool) (b m : Nat) : List Sp := ((List.range' (b + 1) (m - b)).filter fun e : Nat => p (b : Int) (e : Int)).map fun e : Nat => ((b : Int), (e : Int))
def allW (p : Int → Int → Bool) (n b : Nat) : List Sp := (List.range b).flatMap fun i => rowW p i n
theorem rowW_nil (p : Int → Int → Bool) (b : Nat) : rowW p b b = [] := by unfold rowW; simp
theorem rowW_succ (p : Int → Int → Bool) {b m : Nat} (h : b ≤ m) : rowW p b (m + 1) = rowW p b m ++ (if p b ((m : Int) + 1) = true then [((b : Int), (m : Int) + 1)] else []) := by
  unfold rowW
  rw [show m + 1 - b = (m - b) + 1 by omega, List.range'_concat, List.filter_append, List.map_append]
  congr 1
  rw [show b + 1 + 1 * (m - b) = m + 1 by omega]
  by_cases hp : p b ((m : Int) + 1) = true
  · rw [if_pos hp]
    simp [hp]
  · rw [if_neg hp]
    simp [hp]
theorem allW_succ (p : Int → Int → Bool) (n b : Nat) : allW p n (b + 1) = allW p n b ++ rowW p b n := by
  unfold allW
  rw [List.range_succ, List.flatMap_append]; simp
theorem rowW_mem {p : Int → Int → Bool} {b m : Nat} {s : Sp} : s ∈ rowW p b m ↔ ∃ e : Nat, b < e ∧ e ≤ m ∧ p b e = true ∧ s = ((b : Int), (e : Int)) := by
  unfold rowW
  simp only [List.mem_map, List.mem_filter, List.mem_range'_1]
  constructor
  · rintro ⟨e, ⟨h1, h2⟩, rfl⟩
    exact ⟨e, by omega, by omega, h2, rfl⟩
  · rintro ⟨e, h1, h2, h3, rfl⟩
    exact ⟨e, ⟨by omega, h3⟩, rfl⟩
theorem allW_mem {p : Int → Int → Bool} {n b : Nat} {s : Sp} : s ∈ allW p n b ↔ ∃ i e : Nat, i < b ∧ i < e ∧ e ≤ n ∧ p i e = true ∧ s = ((i : Int), (e : Int)) := by
  unfold allW
  simp only [List.mem_flatMap, List.mem_range, rowW_mem]
  constructor
  · rintro ⟨i, hi, e, h1, h2, h3, rfl⟩
    exact ⟨i, e, hi, h1, h2, h3, rfl⟩
  · rintro ⟨i, e, hi, h1, h2, h3, rfl⟩
    exact ⟨i, hi, e, h1, h2, h3, rfl⟩
theorem rowW_sorted (p : Int → Int → Bool) (b m : Nat) : (rowW p b m).Pairwise ltC := by
  unfold rowW
  rw [List.pairwise_map]
  refine List.Pairwise.sublist List.filter_sublist ?_
  have : (List.range' (b + 1) (m - b)).Pairwise (· < ·) := List.pairwise_lt_range'
  refine this.imp ?_
  intro x y h
  unfold ltC
  right
  exact ⟨rfl, by dsimp only; omega⟩
theorem allW_sorted (p : Int → Int → Bool) (n b : Nat) : (allW p n b).Pairwise ltC := by
  induction b with
  | zero => exact List.Pairwise.nil
  | succ b ih =>
    rw [allW_succ, List.pairwise_append]
    refine ⟨ih, rowW_sorted p b n, ?_⟩
    intro x hx y hy
    obtain ⟨i, e, h1, h2, h3, h4, rfl⟩ := allW_mem.1 hx
    obtain ⟨f, g1, g2, g3, rfl⟩ := rowW_mem.1 hy
    unfold ltC
    left
    dsimp only; omega
/-- what a run from b finds, in its text -/
def runL (c : Cp) (kind : ByteArray) (t : Rg) (b : Nat) : List Sp := if anB c.rg kind t.b t.e b = true then rowW (fun _ e => anE c.rg kind t.b t.e e) b t.e.toNat else []
theorem runL_eq {c : Cp} (hg : cpGood c) (kind : ByteArray) {i : Nat} {t : Rg} (hi : c.tx[i]? = some t) {b : Nat} (h1 : t.b ≤ b) (h2 : (b : Int) < t.e) : runL c kind t b = rowW (wntB c kind) b c.tk.length := by
  have ht := (chain_le c.tx 0 _ hg.x).2 t (List.mem_of_getElem? hi)
  have hs := fun e h3 h4 => same_text hg.x hi (b := b) (e := e) h1 h2 h3 h4
  unfold runL
  rw [anB_eq hg kind hi h1 h2]
  have hb := begB c.rg kind b
  have key : ∀ m k, rowW (wntB c kind) b (m + k) = rowW (wntB c kind) b m ++ ((List.range' (b + 1 + (m - b)) (m + k - b - (m - b))).filter fun e : Nat => wntB c kind (b : Int) (e : Int)).map fun e : Nat => ((b : Int), (e : Int)) := by
    intro m k
    unfold rowW
    rw [← List.map_append, ← List.filter_append]
    congr 2
    rw [show m + k - b = (m - b) + (m + k - b - (m - b)) by omega, ← List.range'_append_1]
    congr 1
    congr 1
    omega
  have hk := key t.e.toNat (c.tk.length - t.e.toNat)
  rw [show t.e.toNat + (c.tk.length - t.e.toNat) = c.tk.length by omega] at hk
  rw [hk]
  have hz : ((List.range' (b + 1 + (t.e.toNat - b)) (c.tk.length - b - (t.e.toNat - b))).filter fun e : Nat => wntB c kind (b : Int) (e : Int)) = [] := by
    rw [List.filter_eq_nil_iff]
    intro e he
    rw [List.mem_range'_1] at he
    have := (hs e (by omega) (by omega)).2
    unfold wntB
    simp
    intro _ _ hh
    have := this.1 hh
    omega
  rw [hz, List.map_nil, List.append_nil]
  by_cases hq : begB c.rg kind b = true
  · rw [if_pos hq]
    unfold rowW
    congr 1
    apply List.filter_congr
    intro e he
    rw [List.mem_range'_1] at he
    have h5 := (hs e (by omega) (by omega)).2.2 (by omega)
    show anE c.rg kind t.b t.e (e : Int) = _
    rw [anE_eq hg kind hi (by omega) (by omega)]
    unfold wntB
    rw [hq, decide_eq_true h5]; simp
  · rw [if_neg hq]
    unfold rowW
    have : ((List.range' (b + 1) (t.e.toNat - b)).filter fun e : Nat => wntB c kind (b : Int) (e : Int)) = [] := by
      rw [List.filter_eq_nil_iff]
      intro e _
      unfold wntB
      simp [hq]
    rw [this]; rfl
/-! ### with the filter -/
def innB (c : Cp) (kind : ByteArray) (b e : Int) : Bool := wntB c kind b e && hldB c.rg kind b e
theorem filter_rowW (p q : Int → Int → Bool) (b m : Nat) : (rowW p b m).filter (fun s => q s.1 s.2) = rowW (fun b e => p b e && q b e) b m := by
  unfold rowW
  rw [List.filter_map, List.filter_filter]
  congr 1
  apply List.filter_congr
  intro e _
  simp [Bool.and_comm]
theorem filter_allW (p q : Int → Int → Bool) (n b : Nat) : (allW p n b).filter (fun s => q s.1 s.2) = allW (fun b e => p b e && q b e) n b := by
  unfold allW
  rw [List.filter_flatMap]
  congr 1
  funext i
  exact filter_rowW p q i n
/-- every region is one of the inner spans -/
theorem region_in {c : Cp} (hg : cpGood c) (kind : ByteArray) {r : Rg} (hr : r ∈ c.rg) (hk : r.ty = kind) : (r.b, r.e) ∈ allW (innB c kind) c.tk.length c.tk.length := by
  obtain ⟨u, hu, u1, u2, u3⟩ := hg.r r hr
  obtain ⟨j, hj⟩ := List.getElem?_of_mem hu
  have ht := (chain_le c.tx 0 _ hg.x).2 u hu
  rw [allW_mem]
  refine ⟨r.b.toNat, r.e.toNat, by omega, by omega, by omega, ?_, by rw [Int.toNat_of_nonneg (by omega), Int.toNat_of_nonneg (by omega)]⟩
  rw [Int.toNat_of_nonneg (by omega), Int.toNat_of_nonneg (by omega)]
  have hs := (same_text hg.x hj (b := r.b) (e := r.e) u1 (by omega) u2 (by omega)).2.2 u3
  unfold innB wntB begB endB hldB
  rw [decide_eq_true hs]
  simp only [Bool.and_eq_true, Bool.and_true, List.any_eq_true, decide_eq_true_eq]
  exact ⟨⟨⟨r, hr, hk, rfl⟩, ⟨r, hr, hk, rfl⟩⟩, ⟨r, hr, hk, by omega, by omega⟩⟩
end Go.Proofs.YtbcadnjfegiakaaGreatDoor
