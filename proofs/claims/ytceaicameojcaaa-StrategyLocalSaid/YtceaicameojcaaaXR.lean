/- Own layer: ranges over functions: an iterator's contract, the round, the statement. -/
import Derived.Test.YtceaicameojcaaaXM
namespace Go.Proofs.Ytceaicameojcaaa
open Go.RowKit

/-- The parts of a walk's state that an iterator is handed on. -/
structure X0 where
  w1 : World
  H0 : Hp
  Pt : Nat → Prop
def X0.cx (x : X0) (ro : Option Nat) (N : Nat) (Q : Post) : Cx := { ro := ro, N := N, w1 := x.w1, H0 := x.H0, Pt := x.Pt, Q := Q }
def Cx.x0 (X : Cx) : X0 := ⟨X.w1, X.H0, X.Pt⟩
/-- The state of memory does not hang on where the walk stands. -/
theorem Wd.re {X Y : Cx} {l : List (Nat × Obj)} {H : Hp} {w : World} (h : Wd X l H w) (h1 : Y.w1 = X.w1) (h2 : Y.H0 = X.H0) (h3 : Y.Pt = X.Pt) : Wd Y l H w :=
  ⟨by rw [h1, h3]; exact h.own, h.nd, h.fro, by rw [h1, h3]; exact h.keep, by rw [h2]; exact h.le, by rw [h1, h2, h3]; exact h.ext⟩
abbrev X0.wd (x : X0) (l : List (Nat × Obj)) (H : Hp) (w : World) : Prop := Wd (x.cx none 0 (fun _ _ _ => False)) l H w

/-- What a call of yield does for the iterator. -/
def YieldOk (P : Program) {α : Type} (enc : α → List Value) (x0 : X0) (L : Nat) (I : Nat → List (Nat × Obj) → Hp → Prop) (Ix : List (Nat × Obj) → Hp → Prop) (xs : List α) : Prop :=
  ∀ k x, xs[k]? = some x → ∀ lc H, I k lc H → ∀ li w, x0.wd (li ++ lc) H w →
    YieldAt Fence.wide 0 P L (enc x).toArray w fun en w' => ∃ lc' H', H.le H' ∧ x0.wd (li ++ lc') H' w' ∧
      ((en = .returned (.bool true) ∧ I (k + 1) lc' H') ∨ (en = .returned (.bool false) ∧ Ix lc' H'))

/-- AN ITERATOR's CONTRACT: called with a yield, it yields xs in order till it is told to stop. -/
def Iter (P : Program) (gf : FuncId) (cap : List Value) (H : Hp) {α : Type} (xs : List α) (enc : α → List Value) : Prop :=
  ∀ (x0 : X0) (L : Nat) (I : Nat → List (Nat × Obj) → Hp → Prop) (Ix : List (Nat × Obj) → Hp → Prop), YieldOk P enc x0 L I Ix xs →
    ∀ lc Hc w, I 0 lc Hc → H.le Hc → x0.wd lc Hc w →
      CallsIn Fence.wide 0 P gf (.func (.yield L) #[] #[] :: cap).toArray w fun en w' => ∃ v lc' Hc', en = .returned v ∧ Hc.le Hc' ∧ x0.wd lc' Hc' w' ∧ (I xs.length lc' Hc' ∨ Ix lc' Hc')
theorem Iter.mono {P : Program} {gf : FuncId} {cap : List Value} {H H' : Hp} {α : Type} {xs : List α} {enc : α → List Value} (h : Iter P gf cap H xs enc) (hl : H.le H') : Iter P gf cap H' xs enc :=
  fun x0 L I Ix hY lc Hc w h0 hle hw => h x0 L I Ix hY lc Hc w h0 (hl.trans hle) hw

section
variable {P : Program} {X : Cx} {e : Env} {l : List (Nat × Obj)} {H : Hp} {D : List Deferred} {k : List It}
variable {ty : TypeId} {pos : String} {after : Array Edge} {gd : Option (Nat × Bool)} {all : Array Oper} {rest : List Oper}

/-- The walk of an iterator's own body. -/
def itX (P : Program) (fn : Func) (x0 : X0) (Hc : Hp) (F : List (Nat × Obj) → Hp → Prop) : Cx :=
  x0.cx none fn.ntmps (bodyPostM Fence.wide 0 P fn (fun en w' => ∃ v lc' Hc', en = .returned v ∧ Hc.le Hc' ∧ x0.wd lc' Hc' w' ∧ F lc' Hc'))
theorem Iter.of_T {gf : FuncId} {fn : Func} {c : Code} {cap : List Value} {α : Type} {xs : List α} {enc : α → List Value} (hf : P.funcs[gf]? = some fn) (hb : fn.body = some c) (hs : Nat.ble (cap.length + 1) fn.ntmps = true)
    (h : ∀ (x0 : X0) (L : Nat) (I : Nat → List (Nat × Obj) → Hp → Prop) (Ix : List (Nat × Obj) → Hp → Prop), YieldOk P enc x0 L I Ix xs → ∀ lc Hc, I 0 lc Hc → H.le Hc →
      T P (itX P fn x0 Hc (fun lc' H' => I xs.length lc' H' ∨ Ix lc' H')) (argE 0 (.func (.yield L) #[] #[] :: cap)) lc Hc [] [.code c]) : Iter P gf cap H xs enc := fun x0 L I Ix hY lc Hc w h0 hle hw => by
  refine callsIn_of_wp_marks hf hb trivial ?_
  have hle' : cap.length + 1 ≤ fn.ntmps := Nat.le_of_ble_eq_true hs
  have := (h x0 L I Ix hY lc Hc h0 hle).get { tmps := (Value.func (.yield L) #[] #[] :: cap).toArray ++ Array.replicate (fn.ntmps - (Value.func (.yield L) #[] #[] :: cap).toArray.size) undef, defers := [] } w ⟨by simp [itX, X0.cx]; omega, fun i v hi => ?_, rfl⟩ (hw.re rfl rfl rfl)
  · exact this
  · obtain ⟨_, h2⟩ := argE_get _ 0 i v hi
    rw [Nat.sub_zero] at h2
    have hlt := (List.getElem?_eq_some_iff.1 h2).1
    rw [Array.getElem?_append_left (by simpa using hlt)]
    simpa using h2
theorem T.retI {fn : Func} {x0 : X0} {Hc : Hp} {F : List (Nat × Obj) → Hp → Prop} (h0 : fn.results = #[]) (lc : List (Nat × Obj)) (hl : List.Sublist lc l) (hle : Hc.le H) (hF : F lc H) : T P (itX P fn x0 Hc F) e l H [] (.code .ret :: k) :=
  T.ret fun a w ha hw => by
    show LeavesInM _ _ _ _ _ _ a.defers _ _
    rw [ha.dfr]
    exact ⟨_, results_none h0 _ _ _, _, lc, H, rfl, hle, (hw.sub hl).re rfl rfl rfl, hF⟩
theorem T.fallI {fn : Func} {x0 : X0} {Hc : Hp} {F : List (Nat × Obj) → Hp → Prop} (h0 : fn.results = #[]) (lc : List (Nat × Obj)) (hl : List.Sublist lc l) (hle : Hc.le H) (hF : F lc H) : T P (itX P fn x0 Hc F) e l H [] [] :=
  T.fall fun a w ha hw => by
    show LeavesInM _ _ _ _ _ _ a.defers _ _
    rw [ha.dfr]
    exact ⟨_, results_none h0 _ _ _, _, lc, H, rfl, hle, (hw.sub hl).re rfl rfl rfl, hF⟩

/-- A call of yield in an iterator's body. -/
theorem T.yield {fn : Func} {x0 : X0} {Hc0 : Hp} {F : List (Nat × Obj) → Hp → Prop} {α : Type} {enc : α → List Value} {L d : Nat} {I : Nat → List (Nat × Obj) → Hp → Prop} {Ix : List (Nat × Obj) → Hp → Prop} {xs : List α}
    {y : Operand} {ops : List Operand} {ts : Array TypeId} (hY : YieldOk P enc x0 L I Ix xs) (hw : Wanted e all ⟨some d, .call ⟨.value y, ops.toArray, ts⟩, ty, pos, after, gd⟩) (hN : Nat.blt d (itX P fn x0 Hc0 F).N = true)
    (hx : evE e y = some (.func (.yield L) #[] #[])) {n : Nat} {x : α} (hk : xs[n]? = some x) (hv : evL e ops = some (enc x)) {lc : List (Nat × Obj)} (li : List (Nat × Obj)) (hI : I n lc H)
    (ht : ∀ lc' H', H.le H' → I (n + 1) lc' H' → T P (itX P fn x0 Hc0 F) ((d, .bool true) :: e) (li ++ lc') H' D (.ops all rest :: k))
    (hf : ∀ lc' H', H.le H' → Ix lc' H' → T P (itX P fn x0 Hc0 F) ((d, .bool false) :: e) (li ++ lc') H' D (.ops all rest :: k)) :
    T P (itX P fn x0 Hc0 F) e (li ++ lc) H D (.ops all (⟨some d, .call ⟨.value y, ops.toArray, ts⟩, ty, pos, after, gd⟩ :: rest) :: k) := T.mk fun a w ha hw' => by
  refine wpList_cons (hw.get _ D a ha) ?_
  obtain ⟨f, tmps, assign, body, hy, hR⟩ := hY n x hk lc H hI li w (hw'.re rfl rfl rfl)
  have hrun : (execOp a.eval ⟨some d, .call ⟨.value y, ops.toArray, ts⟩, ty, pos, after, gd⟩).run P w = .ok (.round L f tmps assign body) w := by
    have := evL_map ha ops _ hv
    simp [execOp, resolve, ha.eval hx, Deferred.ofValue, invoke, List.map_toArray, this]
    simpa using hy
  rw [run_semAt hrun (fun _ => by simp), Oper.uponIn_round]
  refine ⟨fun hd => by simp [Fw, Fence.wide] at hd, ?_⟩
  have hR' : RoundIn (Fw (itX P fn x0 Hc0 F).ro) 0 P L f tmps assign body w _ := hR
  refine hR'.mono ?_
  rintro en w' ⟨lc', H', hle, hwd, ⟨rfl, hI'⟩ | ⟨rfl, hI'⟩⟩
  · exact (ht lc' H' hle hI').get _ w' (ha.put (by simpa using hN) _) (hwd.re rfl rfl rfl)
  · exact (hf lc' H' hle hI').get _ w' (ha.put (by simpa using hN) _) (hwd.re rfl rfl rfl)

/-! ### the statement -/
/-- How a round may end. 'Jx c': left by c (return, break ..). -/
def roundQ (x0 : X0) (L : Nat) (rec : LoopState → Option Code → Loop) (lo : List (Nat × Obj)) (H : Hp) (I' : List (Nat × Obj) → Hp → Prop) (Jx : Code → List (Nat × Obj) → Hp → Prop) : Post
  | .normal, _, w => ∃ lk H', H.le H' ∧ x0.wd (lk ++ (L, .loop (rec .busy none)) :: lo) H' w ∧ I' lk H'
  | .ret, _, w => ∃ lk H', H.le H' ∧ x0.wd (lk ++ (L, .loop (rec .busy none)) :: lo) H' w ∧ Jx .ret lk H'
  | .exit id, _, w => ∃ lk H', H.le H' ∧ x0.wd (lk ++ (L, .loop (rec .busy none)) :: lo) H' w ∧ Jx (.exit id) lk H'
  | _, _, _ => False
def rdX (X : Cx) (L : Nat) (rec : LoopState → Option Code → Loop) (lo : List (Nat × Obj)) (H : Hp) (I' : List (Nat × Obj) → Hp → Prop) (Jx : Code → List (Nat × Obj) → Hp → Prop) : Cx :=
  { ro := some L, N := X.N, w1 := X.w1, H0 := X.H0, Pt := X.Pt, Q := roundQ X.x0 L rec lo H I' Jx }
/-- The walk of the assignments to the loop's variables. -/
def asX (X : Cx) (L : Nat) : Cx := { ro := some L, N := X.N, w1 := X.w1, H0 := X.H0, Pt := X.Pt, Q := fun _ _ _ => False }
/-- Between the assignments to the loop's variables and its body the record turns busy. -/
def BeginJ (P : Program) (Xr : Cx) (L : Nat) (body : Code) : Act → World → Prop := fun a w => ∃ w', (Instr.beginRound L).run P w = .ok () w' ∧ wpK P Xr.ro Xr.Q [.code body] .normal a w'
theorem T.begin {L : Nat} {rec : LoopState → Option Code → Loop} (hrec : ∀ s p, (rec s p).state = s ∧ { rec s p with state := .busy } = rec .busy p) {lk lo : List (Nat × Obj)} {I' : List (Nat × Obj) → Hp → Prop} {Jx : Code → List (Nat × Obj) → Hp → Prop} {H1 : Hp} {body : Code}
    (h : T P (rdX X L rec lo H1 I' Jx) e (lk ++ (L, .loop (rec .busy none)) :: lo) H D [.code body]) : T P (asX X L) e (lk ++ (L, .loop (rec .ready none)) :: lo) H D [.done (BeginJ P (rdX X L rec lo H1 I' Jx) L body)] :=
  T.done fun a w ha hw => by
    have hm : (L, Obj.loop (rec .ready none)) ∈ lk ++ (L, Obj.loop (rec .ready none)) :: lo := by simp
    have hl := (hw.own _ hm).1
    have hu : ∀ lk : List (Nat × Obj), Upd (lk ++ (L, Obj.loop (rec .ready none)) :: lo) L (.loop (rec .ready none)) (.loop (rec .busy none)) (lk ++ (L, Obj.loop (rec .busy none)) :: lo) := by
      intro lk
      induction lk with
      | nil => exact Upd.head
      | cons p lk ih => exact Upd.tail ih
    have hb := run_beginRound (P := P) hl (hrec _ _).1
    rw [(hrec .ready none).2] at hb
    exact ⟨_, hb, h.get a _ ⟨ha.size, ha.get, ha.dfr⟩ ((hw.upd (hu lk)).re rfl rfl rfl)⟩

theorem T.roundEnd {L : Nat} {rec : LoopState → Option Code → Loop} {lo : List (Nat × Obj)} {I' : List (Nat × Obj) → Hp → Prop} {Jx : Code → List (Nat × Obj) → Hp → Prop} {H1 : Hp} (lk : List (Nat × Obj))
    (hl : List.Sublist (lk ++ (L, .loop (rec .busy none)) :: lo) l) (hle : H1.le H) (hI : I' lk H) : T P (rdX X L rec lo H1 I' Jx) e l H D [] :=
  T.fall fun a w ha hw => ⟨lk, H, hle, (hw.sub hl).re rfl rfl rfl, hI⟩
theorem T.roundRet {L : Nat} {rec : LoopState → Option Code → Loop} {lo : List (Nat × Obj)} {I' : List (Nat × Obj) → Hp → Prop} {Jx : Code → List (Nat × Obj) → Hp → Prop} {H1 : Hp} (lk : List (Nat × Obj))
    (hl : List.Sublist (lk ++ (L, .loop (rec .busy none)) :: lo) l) (hle : H1.le H) (hI : Jx .ret lk H) : T P (rdX X L rec lo H1 I' Jx) e l H D (.code .ret :: k) :=
  T.ret fun a w ha hw => ⟨lk, H, hle, (hw.sub hl).re rfl rfl rfl, hI⟩
theorem wpK_exit_out {ro : Option Nat} {Q : Post} {id : Nat} {a : Act} {w : World} : ∀ {k : List It}, exitK id k = none → Q (.exit id) a w → wpK P ro Q k (.exit id) a w
  | [], _, h => h
  | .blk id' :: k, hx, h => by
    show if id = id' then _ else _
    unfold exitK at hx
    by_cases e1 : id = id'
    · subst e1
      have hb : Nat.beq id id = true := Nat.beq_refl id
      rw [hb] at hx; simp at hx
    · rw [if_neg e1]
      have : Nat.beq id id' = false := by rw [Bool.eq_false_iff]; intro hh; exact e1 (Nat.eq_of_beq_eq_true hh)
      rw [this] at hx
      exact wpK_exit_out (k := k) hx h
  | .code _ :: k, hx, h => wpK_exit_out (k := k) hx h
  | .ops _ _ :: k, hx, h => wpK_exit_out (k := k) hx h
  | .done _ :: k, hx, h => wpK_exit_out (k := k) hx h
theorem T.roundExit {L id : Nat} {rec : LoopState → Option Code → Loop} {lo : List (Nat × Obj)} {I' : List (Nat × Obj) → Hp → Prop} {Jx : Code → List (Nat × Obj) → Hp → Prop} {H1 : Hp} (lk : List (Nat × Obj)) (hx : exitK id k = none)
    (hl : List.Sublist (lk ++ (L, .loop (rec .busy none)) :: lo) l) (hle : H1.le H) (hI : Jx (.exit id) lk H) : T P (rdX X L rec lo H1 I' Jx) e l H D (.code (.exit id) :: k) :=
  T.mk fun a w ha hw => wpIn_exit (wpK_exit_out hx ⟨lk, H, hle, (hw.sub hl).re rfl rfl rfl, hI⟩)

/-- The slots of a round: the loop's own, with the parameters. -/
def zipE : List Tmp → List Value → Env
  | p :: ps, v :: vs => (p, v) :: zipE ps vs
  | _, _ => []
theorem zip_get : ∀ (ps : List Tmp) (vs : List Value) (e : Env) (N : Nat) (t0 : Array Value), t0.size = N → (∀ i v, e.get i = some v → t0[i]? = some v) → (∀ p ∈ ps, p < N) → ps.Nodup →
    ∃ t, ((ps.zip vs).foldl (fun (t : Array Value) (p : Tmp × Value) => t.setIfInBounds p.1 p.2) t0) = t ∧ t.size = N ∧ ∀ (i : Nat) (v : Value), Env.get (zipE ps vs ++ e) i = some v → t[i]? = some v
  | [], vs, e, N, t0, h1, h2, _, _ => ⟨t0, by simp, h1, fun i v h => h2 i v (by simpa [zipE] using h)⟩
  | p :: ps, [], e, N, t0, h1, h2, _, _ => ⟨t0, by simp, h1, fun i v h => h2 i v (by simpa [zipE] using h)⟩
  | p :: ps, v :: vs, e, N, t0, h1, h2, h3, h4 => by
    have hp := h3 p List.mem_cons_self
    have hput : ∀ i u, Env.get ((p, v) :: e) i = some u → (t0.setIfInBounds p v)[i]? = some u := by
      intro i u hi
      rw [Array.getElem?_setIfInBounds]
      simp only [Env.get] at hi
      by_cases e' : i = p
      · subst e'
        rw [Nat.beq_refl] at hi
        simp only [cond_true, Option.some.injEq] at hi
        rw [if_pos rfl, if_pos (by rw [h1]; exact hp), hi]
      · have : Nat.beq i p = false := by rw [Bool.eq_false_iff]; intro hh; exact e' (Nat.eq_of_beq_eq_true hh)
        rw [this] at hi
        rw [if_neg (fun e2 => e' e2.symm)]
        exact h2 i u hi
    obtain ⟨t, ht, hs, hg⟩ := zip_get ps vs ((p, v) :: e) N (t0.setIfInBounds p v) (by simpa using h1) hput (fun q hq => h3 q (List.mem_cons_of_mem _ hq)) (List.nodup_cons.1 h4).2
    refine ⟨t, by simpa using ht, hs, fun i u hi => hg i u ?_⟩
    have hnp : p ∉ ps := (List.nodup_cons.1 h4).1
    have mv : ∀ (ps : List Tmp) (vs : List Value), p ∉ ps → ∀ (i : Nat) (u : Value), Env.get ((p, v) :: (zipE ps vs ++ e)) i = some u → Env.get (zipE ps vs ++ (p, v) :: e) i = some u := by
      intro ps
      induction ps with
      | nil => intro vs _ i u h; simpa [zipE] using h
      | cons q ps ih =>
        intro vs hq i u h
        cases vs with
        | nil => simpa [zipE] using h
        | cons v' vs =>
          have hqp : q ≠ p := fun e1 => hq (by simp [e1])
          simp only [zipE, List.cons_append, Env.get] at h ⊢
          by_cases e1 : i = q
          · subst e1
            have b1 : Nat.beq i p = false := by rw [Bool.eq_false_iff]; intro hh; exact hqp (Nat.eq_of_beq_eq_true hh)
            rw [b1, Nat.beq_refl] at h
            rw [Nat.beq_refl]; exact h
          · have b1 : Nat.beq i q = false := by rw [Bool.eq_false_iff]; intro hh; exact e1 (Nat.eq_of_beq_eq_true hh)
            rw [b1] at h ⊢
            exact ih vs (fun hm => hq (List.mem_cons_of_mem _ hm)) i u (by simpa [Env.get] using h)
    exact mv ps vs hnp i u hi

/-- 'for .. := range g { .. }', at an outermost loop. -/
theorem T.rangeFunc {g : Operand} {ps : List Tmp} {assign body : Code} {gf : FuncId} [hE : Ent P gf] {cap : List Value} {α : Type} {xs : List α} {enc : α → List Value}
    (hro : X.ro = none) (hg : evE e g = some (.func (.func gf) #[] cap.toArray)) (hit : Iter P gf cap H xs enc) (hps : ∀ x, (enc x).length = ps.length) (hpN : ps.all (fun p => Nat.blt p X.N) = true) (hnd : ps.Nodup)
    (I : Nat → List (Nat × Obj) → Hp → Prop) (Jx : Code → List (Nat × Obj) → Hp → Prop) (h0 : I 0 l H)
    (hbody : ∀ n x lk Hk, xs[n]? = some x → I n lk Hk → H.le Hk → ∀ L rec lo, (∀ s p, (rec s p).state = s ∧ { rec s p with state := .busy } = rec .busy p) →
      T P (asX X L) (zipE ps (enc x) ++ e) (lk ++ (L, .loop (rec .ready none)) :: lo) Hk [] [.code assign, .done (BeginJ P (rdX X L rec lo Hk (I (n + 1)) Jx) L body)])
    (hdone : ∀ r lk Hk, H.le Hk → I xs.length lk Hk → T P X e ((r, .deferred (some [])) :: lk) Hk ({ target := .collected r, args := #[] } :: D) k)
    (hjump : ∀ c r lk Hk, H.le Hk → Jx c lk Hk → T P X e ((r, .deferred (some [])) :: lk) Hk ({ target := .collected r, args := #[] } :: D) (.code c :: k)) :
    T P X e l H D (.code (.rangeFunc g ps.toArray assign body) :: k) := T.mk fun a w ha hw => by
  show (Code.rangeFunc g ps.toArray assign body).wpIn (Fw X.ro) 0 P _ a w
  refine wpIn_rangeFunc ?_
  intro fn _
  rw [Fw_round, hro]
  obtain ⟨rec, hrecd⟩ : ∃ rec : LoopState → Option Code → Loop, rec = fun st pe => { state := st, pending := pe, fn, tmps := a.tmps, params := ps.toArray, assign, body, defers := w.heap.size } := ⟨_, rfl⟩
  have hrec : ∀ s p, (rec s p).state = s ∧ { rec s p with state := .busy } = rec .busy p := by intro s p; subst hrecd; exact ⟨rfl, rfl⟩
  have hw1 : Wd X ((w.heap.size + 1, .loop (rec .ready none)) :: (w.heap.size, .deferred (some [])) :: l) H ((w.alloc (.deferred (some []))).alloc (.loop (rec .ready none))) := by
    have := (hw.alloc (.deferred (some []))).alloc (.loop (rec .ready none))
    rw [World.size_alloc] at this
    exact this
  have hL1 : Instr.enterLoop fn a.tmps ps.toArray assign body none = Instr.enterLoop fn a.tmps ps.toArray assign body none := rfl
  have hen := run_enterLoop_outer (P := P) (w := w) fn a.tmps ps.toArray assign body
  have hre : (Loop.mk .ready none fn a.tmps ps.toArray assign body w.heap.size) = rec .ready none := by rw [hrecd]
  rw [hre] at hen
  refine ⟨w.heap.size + 1, [{ target := .collected w.heap.size, args := #[] }], (w.alloc (.deferred (some []))).alloc (.loop (rec .ready none)), { target := .fn (.func gf) cap.toArray, args := #[.func (.yield (w.heap.size + 1)) #[] #[]] }, (w.alloc (.deferred (some []))).alloc (.loop (rec .ready none)), gf,
    #[.func (.yield (w.heap.size + 1)) #[] #[]] ++ cap.toArray, (w.alloc (.deferred (some []))).alloc (.loop (rec .ready none)), hen, ?_, fun _ _ => trivial, ?_, fun hd => by simp [Fw, Fence.wide] at hd, ?_⟩
  · simp only [resolve, rangeCall, ha.eval hg, Deferred.ofValue]
    simp [Act.eval]
  · have := hE.h (#[.func (.yield (w.heap.size + 1)) #[] #[]] ++ cap.toArray) ((w.alloc (.deferred (some []))).alloc (.loop (rec .ready none)))
    simpa [invoke] using this
  · -- the iterator
    have hargs : (#[.func (.yield (w.heap.size + 1)) #[] #[]] ++ cap.toArray : Array Value) = (.func (.yield (w.heap.size + 1)) #[] #[] :: cap).toArray := by simp
    rw [hargs]
    have hW1 : X.x0.wd (l ++ (w.heap.size + 1, .loop (rec .ready none)) :: [(w.heap.size, .deferred (some []))]) H ((w.alloc (.deferred (some []))).alloc (.loop (rec .ready none))) := by
      refine (hw1.perm ?_).re rfl rfl rfl
      exact (List.perm_append_comm (l₁ := l) (l₂ := [(w.heap.size + 1, .loop (rec .ready none)), (w.heap.size, .deferred (some []))]))
    have hupd : ∀ (lk lo : List (Nat × Obj)) (o o' : Obj), Upd (lk ++ (w.heap.size + 1, o) :: lo) (w.heap.size + 1) o o' (lk ++ (w.heap.size + 1, o') :: lo) := by
      intro lk lo o o'
      induction lk with
      | nil => exact Upd.head
      | cons p lk ih => exact Upd.tail ih
    refine (hit X.x0 (w.heap.size + 1)
      (fun n lc Hc => ∃ lk, lc = lk ++ (w.heap.size + 1, .loop (rec .ready none)) :: [(w.heap.size, .deferred (some []))] ∧ I n lk Hc ∧ H.le Hc)
      (fun lc Hc => ∃ c lk, lc = lk ++ (w.heap.size + 1, .loop (rec .done (some c))) :: [(w.heap.size, .deferred (some []))] ∧ Jx c lk Hc ∧ H.le Hc)
      (fun n x hx lc Hc hI li wy hwy => ?_)
      _ H _ ⟨l, rfl, h0, Hp.le.refl _⟩ (Hp.le.refl _) hW1).mono ?_
    · obtain ⟨lk, rfl, hI, hle⟩ := hI
      have hmem : (w.heap.size + 1, Obj.loop (rec .ready none)) ∈ li ++ (lk ++ (w.heap.size + 1, Obj.loop (rec .ready none)) :: [(w.heap.size, Obj.deferred (some []))]) := by simp
      have hl := (hwy.own _ hmem).1
      simp only at hl
      have hy := run_yield (P := P) (args := (enc x).toArray) hl (by rw [hrecd]; simp [hps])
      obtain ⟨t, ht, hts, htg⟩ := zip_get ps (enc x) e X.N a.tmps ha.size ha.get (fun p hp => by simpa using List.all_eq_true.1 hpN p hp) hnd
      have htmp : ((rec .ready none).params.zip (enc x).toArray).foldl (fun tmps (t, a) => tmps.setIfInBounds t a) (rec .ready none).tmps = t := by
        rw [← ht, hrecd, ← Array.foldl_toList]; simp
      rw [htmp] at hy
      have hfn : (rec .ready none).fn = fn ∧ (rec .ready none).assign = assign ∧ (rec .ready none).body = body := by rw [hrecd]; exact ⟨rfl, rfl, rfl⟩
      rw [hfn.1, hfn.2.1, hfn.2.2] at hy
      refine ⟨fn, t, assign, body, hy, ?_⟩
      have hp1 : (lk ++ (w.heap.size + 1, Obj.loop (rec .ready none)) :: (li ++ [(w.heap.size, Obj.deferred (some []))])).Perm (li ++ (lk ++ (w.heap.size + 1, Obj.loop (rec .ready none)) :: [(w.heap.size, Obj.deferred (some []))])) := by
        refine List.Perm.trans ?_ List.perm_append_comm
        rw [List.append_assoc]
        refine List.Perm.append_left _ ?_
        rw [List.cons_append]
        refine List.Perm.cons _ ?_
        exact List.perm_append_comm
      have hT := (hbody n x lk Hc hx hI hle (w.heap.size + 1) rec (li ++ [(w.heap.size, Obj.deferred (some ([] : List Deferred)))]) hrec).get { tmps := t, defers := [] } wy ⟨hts, htg, rfl⟩ ((hwy.perm hp1).re rfl rfl rfl)
      have fin : ∀ (jump : Option Code) (w3 : World) (lk' : List (Nat × Obj)) (H' : Hp), X.x0.wd (lk' ++ (w.heap.size + 1, .loop (rec .busy none)) :: (li ++ [(w.heap.size, .deferred (some []))])) H' w3 →
          ∃ w4, (Instr.endRound (w.heap.size + 1) jump).run P w3 = .ok (.bool jump.isNone) w4 ∧ X.x0.wd (li ++ (lk' ++ (w.heap.size + 1, .loop (rec (if jump.isNone then .ready else .done) jump)) :: [(w.heap.size, .deferred (some []))])) H' w4 := by
        intro jump w3 lk' H' hwd
        have hm : (w.heap.size + 1, Obj.loop (rec .busy none)) ∈ lk' ++ (w.heap.size + 1, Obj.loop (rec .busy none)) :: (li ++ [(w.heap.size, Obj.deferred (some []))]) := by simp
        have hl3 := (hwd.own _ hm).1
        simp only at hl3
        have hend := run_endRound (P := P) jump hl3
        have hrr : ({ rec .busy none with state := if jump.isNone then .ready else .done, pending := jump } : Loop) = rec (if jump.isNone then .ready else .done) jump := by rw [hrecd]
        rw [hrr] at hend
        refine ⟨_, hend, (hwd.upd (hupd lk' _ _ (.loop (rec (if jump.isNone then .ready else .done) jump)))).perm ?_⟩
        refine List.Perm.trans List.perm_append_comm ?_
        rw [List.append_assoc]
        refine List.Perm.append_left _ ?_
        rw [List.cons_append]
        refine List.Perm.cons _ ?_
        exact List.perm_append_comm
      refine roundIn_of_wpIn (F := Fence.wide) (n := 0) trivial (wpIn_mono (show assign.wpIn _ _ _ (wpK P (some (w.heap.size + 1)) (fun _ _ _ => False) [.done (BeginJ P (rdX X (w.heap.size + 1) rec (li ++ [(w.heap.size, .deferred (some []))]) Hc (I (n + 1)) Jx) (w.heap.size + 1) body)]) _ _ from hT) ?_)
      intro en a1 w2 he
      cases en with
      | normal =>
        obtain ⟨w3, hb, hbd⟩ := he
        refine ⟨w3, hb, wpIn_mono (show body.wpIn _ _ _ (wpK P (some (w.heap.size + 1)) _ []) _ _ from hbd) ?_⟩
        intro e2 a2 w4 hq2
        cases e2 with
        | normal =>
          obtain ⟨lk', H', hle', hwd, hI'⟩ := hq2
          obtain ⟨w5, h5, h6⟩ := fin none w4 lk' H' hwd
          exact ⟨_, w5, h5, _, H', hle', h6, .inl ⟨rfl, lk', rfl, hI', hle.trans hle'⟩⟩
        | ret =>
          obtain ⟨lk', H', hle', hwd, hI'⟩ := hq2
          obtain ⟨w5, h5, h6⟩ := fin (some .ret) w4 lk' H' hwd
          exact ⟨_, w5, h5, _, H', hle', h6, .inr ⟨rfl, .ret, lk', rfl, hI', hle.trans hle'⟩⟩
        | exit id =>
          obtain ⟨lk', H', hle', hwd, hI'⟩ := hq2
          obtain ⟨w5, h5, h6⟩ := fin (some (.exit id)) w4 lk' H' hwd
          exact ⟨_, w5, h5, _, H', hle', h6, .inr ⟨rfl, .exit id, lk', rfl, hI', hle.trans hle'⟩⟩
        | goto t => exact hq2.elim
        | panic c => exact hq2.elim
        | outgrown => exact hq2.elim
      | exit id => exact he
      | goto l => exact he
      | ret => exact he
      | panic c => exact he
      | outgrown => exact he
    · -- behind it
      rintro en w2 ⟨v, lc, Hc, rfl, hle, hwd, ⟨lk, rfl, hI, hle2⟩ | ⟨c, lk, rfl, hI, hle2⟩⟩
      · have hm : (w.heap.size + 1, Obj.loop (rec .ready none)) ∈ lk ++ (w.heap.size + 1, Obj.loop (rec .ready none)) :: [(w.heap.size, Obj.deferred (some []))] := by simp
        have hl3 := (hwd.own _ hm).1
        simp only at hl3
        have hend := run_endLoop (P := P) hl3 (by rw [(hrec .ready none).1]; exact fun h => by cases h)
        replace hend : (Instr.endLoop (w.heap.size + 1)).run P w2 = .ok none (w2.putObj (w.heap.size + 1) (.loop (rec .exhausted none))) := by rw [hend, hrecd]
        refine ⟨none, _, hend, ?_⟩
        have hw9 := hwd.upd (hupd lk [(w.heap.size, .deferred (some []))] _ (.loop (rec .exhausted none)))
        have hw10 : X.x0.wd ((w.heap.size, Obj.deferred (some [])) :: lk) Hc _ := (hw9.perm (List.perm_append_comm (l₁ := [(w.heap.size + 1, Obj.loop (rec .exhausted none)), (w.heap.size, Obj.deferred (some []))]) (l₂ := lk))).sub (.cons _ (List.Sublist.refl _))
        have hT := (hdone w.heap.size lk Hc hle2 hI).get { a with defers := [{ target := .collected w.heap.size, args := #[] }] ++ a.defers } _ ⟨ha.size, ha.get, by simp [ha.dfr]⟩ (hw10.re rfl rfl rfl)
        rw [hro] at hT; exact hT
      · have hm : (w.heap.size + 1, Obj.loop (rec .done (some c))) ∈ lk ++ (w.heap.size + 1, Obj.loop (rec .done (some c))) :: [(w.heap.size, Obj.deferred (some []))] := by simp
        have hl3 := (hwd.own _ hm).1
        simp only at hl3
        have hend := run_endLoop (P := P) hl3 (by rw [(hrec .done (some c)).1]; exact fun h => by cases h)
        replace hend : (Instr.endLoop (w.heap.size + 1)).run P w2 = .ok (some c) (w2.putObj (w.heap.size + 1) (.loop (rec .exhausted (some c)))) := by rw [hend, hrecd]
        refine ⟨some c, _, hend, ?_⟩
        have hw9 := hwd.upd (hupd lk [(w.heap.size, .deferred (some []))] _ (.loop (rec .exhausted (some c))))
        have hw10 : X.x0.wd ((w.heap.size, Obj.deferred (some [])) :: lk) Hc _ := (hw9.perm (List.perm_append_comm (l₁ := [(w.heap.size + 1, Obj.loop (rec .exhausted (some c))), (w.heap.size, Obj.deferred (some []))]) (l₂ := lk))).sub (.cons _ (List.Sublist.refl _))
        have hT := (hjump c w.heap.size lk Hc hle2 hI).get { a with defers := [{ target := .collected w.heap.size, args := #[] }] ++ a.defers } _ ⟨ha.size, ha.get, by simp [ha.dfr]⟩ (hw10.re rfl rfl rfl)
        rw [hro] at hT; exact hT
end

end Go.Proofs.Ytceaicameojcaaa
