/- match: what is known; the states to which a part leads.
   match: the states to which an anchor leads.
   match: lead: the states to which a part leads from some states. -/
import Derived.Test.YtbcadnjfegiakaaGreatDoorGT
namespace Go.Proofs.YtbcadnjfegiakaaGreatDoor
open Go.RowKit


/-- a set of states in memory that is only read -/
def SetIn (H : Hp) (b : Nat) (D : Int → Prop) : Prop := ∃ es clock l, H b = some (.map es clock) ∧ SetB stV es clock l ∧ ∀ t, t ∈ l ↔ D t
theorem SetIn.mono {H H' : Hp} {b : Nat} {D : Int → Prop} (h : SetIn H b D) (hl : H.le H') : SetIn H' b D := by
  obtain ⟨es, clock, l, h1, h2, h3⟩ := h
  exact ⟨es, clock, l, hl _ _ h1, h2, h3⟩
theorem SetIn.iff {H : Hp} {b : Nat} {D D' : Int → Prop} (h : SetIn H b D) (hd : ∀ t, D t ↔ D' t) : SetIn H b D' := by
  obtain ⟨es, clock, l, h1, h2, h3⟩ := h
  exact ⟨es, clock, l, h1, h2, fun t => (h3 t).trans (hd t)⟩
/-- the states to which a part of the pattern leads -/
def Dn (rg : List Rg) (kind : ByteArray) (tb te : Int) : Pid → Int → Int → Prop
  | .t, s, x => s < te ∧ x = s + 1
  | .b, s, x => anB rg kind tb te s = true ∧ x = s
  | .e, s, x => anE rg kind tb te s = true ∧ x = s
  | .r, s, x => s < x ∧ x ≤ te
  | .s, s, x => anB rg kind tb te s = true ∧ s < x ∧ x ≤ te ∧ anE rg kind tb te x = true
/-- what is known -/
def Kn (H : Hp) (bq bs bt : Nat) (rg : List Rg) (kind : ByteArray) (tb te : Int) (es : Array MapEntry) (clock : Nat) : Prop :=
  ∃ kks, MapB (kkV bq bs bt) es clock kks ∧ ∀ x v, (x, v) ∈ kks → ∃ b, v = .map (some b) ∧ SetIn H b (Dn rg kind tb te x.1 x.2)
theorem Kn.mono {H H' : Hp} {bq bs bt : Nat} {rg : List Rg} {kind : ByteArray} {tb te : Int} {es : Array MapEntry} {clock : Nat} (h : Kn H bq bs bt rg kind tb te es clock) (hl : H.le H') : Kn H' bq bs bt rg kind tb te es clock := by
  obtain ⟨kks, h1, h2⟩ := h
  exact ⟨kks, h1, fun x v hx => by obtain ⟨b, e, hb⟩ := h2 x v hx; exact ⟨b, e, hb.mono hl⟩⟩
theorem putB_mem {α : Type} [DecidableEq α] {ks : Kvs α} {a : α} {v : Value} {x : α × Value} (h : x ∈ putB ks a v) : x = (a, v) ∨ x ∈ ks := by
  unfold putB at h
  split at h
  · obtain ⟨y, hy, rfl⟩ := List.mem_map.1 h
    split
    · exact .inl rfl
    · exact .inr hy
  · rcases List.mem_append.1 h with h | h
    · exact .inr h
    · exact .inl (List.mem_singleton.1 h)
theorem Kn.put {H : Hp} {bq bs bt : Nat} {rg : List Rg} {kind : ByteArray} {tb te : Int} {kks : Kvs Kk} {es' : Array MapEntry} {clock' b : Nat} {x : Kk}
    (h2 : ∀ x v, (x, v) ∈ kks → ∃ b, v = .map (some b) ∧ SetIn H b (Dn rg kind tb te x.1 x.2)) (hb : SetIn H b (Dn rg kind tb te x.1 x.2)) (h' : MapB (kkV bq bs bt) es' clock' (putB kks x (.map (some b)))) :
    Kn H bq bs bt rg kind tb te es' clock' :=
  ⟨_, h', fun y v hy => by
    rcases putB_mem hy with e | hy
    · obtain ⟨rfl, rfl⟩ := Prod.mk.inj e
      exact ⟨b, rfl, hb⟩
    · exact h2 y v hy⟩
/-- what reach comes to -/
def RchR (bq bs bt bk : Nat) (rg : List Rg) (kind : ByteArray) (tb te : Int) (D : Int → Prop) (v : Value) (H' : Hp) (l' : List (Nat × Obj)) : Prop :=
  ∃ b es' clock', v = .map (some b) ∧ SetIn H' b D ∧ l' = [(bk, .map es' clock')] ∧ Kn H' bq bs bt rg kind tb te es' clock'
def RchOk (c : Cp) (kind : ByteArray) (bq bs bt br bk : Nat) (tb te : Int) (p : Pid) (a : Int) : Prop :=
  ∀ H es clock, RunR H c kind bq bs bt br bk tb te → Kn H bq bs bt c.rg kind tb te es clock →
    FnW Tryz.prog 76 #[.pointer (some ⟨br, 0, none⟩), .pointer (some (p.ad bq bs bt)), stV a] H [(bk, .map es clock)] (RchR bq bs bt bk c.rg kind tb te (Dn c.rg kind tb te p a))
theorem un_known : Tryz.prog.underlying 137 = some (.map 210 141) := by kernel_rfl
theorem un_set : Tryz.prog.underlying 141 = some (.map 146 4) := by kernel_rfl
theorem zv_set (w : World) : (zeroValue 141).run Tryz.prog w = .ok (.map none) w := by kernel_rfl
theorem zv_bool (w : World) : (zeroValue 4).run Tryz.prog w = .ok (.bool false) w := by kernel_rfl
section
variable {e : Env} {l : List (Nat × Obj)} {H : Hp} {dst : Option Tmp} {ty : TypeId} {pos : String} {after : Array Edge} {gd : Option (Nat × Bool)}
theorem PV.known0 {kind : ByteArray} {bq bs bt bk : Nat} (hq : QuR H kind bq bs bt) {x y : Operand} {es : Array MapEntry} {clock : Nat} {kks : Kvs Kk} {k : Kk}
    (hx : evE e x = some (.map (some bk))) (hy : evE e y = some (kkV bq bs bt k)) (hs : MapB (kkV bq bs bt) es clock kks) (hl : SomeObj l H bk (.map es clock)) (hn : lookB kks k = none) :
    PV Tryz.prog e l H ⟨dst, .lookup 137 x y true, ty, pos, after, gd⟩ (.tuple #[.map none, .bool false]) := by
  have := PV.getMap2 (P := Tryz.prog) (dst := dst) (ty := ty) (pos := pos) (after := after) (gd := gd) un_known zv_set (ky_key hq) hx hy hs hl
  rw [hn] at this
  exact this
theorem PV.known1 {kind : ByteArray} {bq bs bt bk : Nat} (hq : QuR H kind bq bs bt) {x y : Operand} {es : Array MapEntry} {clock : Nat} {kks : Kvs Kk} {k : Kk} {v : Value}
    (hx : evE e x = some (.map (some bk))) (hy : evE e y = some (kkV bq bs bt k)) (hs : MapB (kkV bq bs bt) es clock kks) (hl : SomeObj l H bk (.map es clock)) (hn : lookB kks k = some v) :
    PV Tryz.prog e l H ⟨dst, .lookup 137 x y true, ty, pos, after, gd⟩ (.tuple #[v, .bool true]) := by
  have := PV.getMap2 (P := Tryz.prog) (dst := dst) (ty := ty) (pos := pos) (after := after) (gd := gd) un_known zv_set (ky_key hq) hx hy hs hl
  rw [hn] at this
  exact this
end
section
variable {c : Cp} {kind : ByteArray} {bq bs bt br bk : Nat} {tb te : Int}
set_option maxHeartbeats 2000000 in
theorem reach_t (a : Int) (ha : 0 ≤ a ∧ a ≤ te) : RchOk c kind bq bs bt br bk tb te .t a := by
  intro H es clock hR hK
  obtain ⟨kks, k1, k2⟩ := hK
  have hr := hR.r
  have hto := tokenP_fn hR a ha
  obtain ⟨tt, hpt⟩ := hR.q.p.t
  unfold stV at hto ⊢
  unfold encPn pT at hpt
  unfold pnV pT at hto
  unfold Pid.ad
  dsimp only at hpt hto ⊢
  refine FnW.of_T (vs := [.pointer (some ⟨br, 0, none⟩), .pointer (some ⟨bt, 0, none⟩), .agg #[.int .i64 a, .int .i64 0, .int .i64 0, .int .i64 0]]) Tryz.func76 rfl rfl fun w => ?_; refine zs3 ?_; (refine T.box Wanted.none rfl rfl zq15 ?_; intro b5); refine yq11 ?_; refine sq ?_; refine yq10 ?_; refine TQ.pv (PV.nilCheck rfl) Wanted.none rfl rfl ?_; refine yq1 ?_; refine TQ.pv (PV.move rfl) Wanted.none rfl rfl ?_; refine TQ.pv (PV.loadAll rfl zq0 (by exact rfl)) Wanted.none rfl rfl ?_; refine TQ.pv (PV.build rfl zq12) Wanted.none rfl rfl ?_
  cases hlk : lookB kks (Pid.t, a) with
  | some v =>
    obtain ⟨b, rfl, hb⟩ := k2 _ _ (lookB_some hlk)
    refine TQ.pv (PV.known1 hR.q (k := (Pid.t, a)) rfl rfl k1 (.own zq2) hlk) Wanted.none rfl rfl ?_; refine TQ.pv (PV.move rfl) Wanted.none rfl rfl ?_; refine TQ.pv (PV.extract rfl rfl) Wanted.none rfl rfl ?_; refine TQ.pv (PV.extract rfl rfl) Wanted.none rfl rfl ?_; refine TQ.pv (PV.assign rfl) Wanted.none rfl rfl ?_; refine yq34 ?_; refine yq4 ?_; refine so ?_; refine T.condT rfl rfl ?_; refine yq4 ?_; refine yq0 ?_
    exact T.retW (Lv.finW _ zq4 (RV.tmp rfl rfl) ⟨b, es, clock, rfl, hb, rfl, kks, k1, k2⟩)
  | none =>
    refine TQ.pv (PV.known0 hR.q (k := (Pid.t, a)) rfl rfl k1 (.own zq2) hlk) Wanted.none rfl rfl ?_; refine TQ.pv (PV.move rfl) Wanted.none rfl rfl ?_; refine TQ.pv (PV.extract rfl rfl) Wanted.none rfl rfl ?_; refine TQ.pv (PV.extract rfl rfl) Wanted.none rfl rfl ?_; refine TQ.pv (PV.assign rfl) Wanted.none rfl rfl ?_; refine yq34 ?_; refine yq4 ?_; refine so ?_; refine yq7 ?_; refine zs3 ?_; refine T.mkMap Wanted.none rfl ?_
    intro bo
    by_cases h1 : a < te
    · rw [if_pos h1] at hto
      refine yq11 ?_; refine yq4 ?_; refine sv (PV.nilCheck rfl) ?_; refine yq6 ?_; refine so ?_; refine T.block ?_; refine zs3 ?_; refine yq32 ?_; refine T.condT rfl rfl ?_
      (repeat refine sq ?_)
      refine T.cutK [(9, Value.map (some bo)), (5, Value.pointer (some { block := b5, off := 0 })), (0, Value.pointer (some { block := br, off := 0 })), (1, Value.pointer (some { block := bt, off := 0 }))] (γ := Nat) (fun _ => True) (fun b => [(10, .pointer (some ⟨b, 0, none⟩)), (11, .bool true)]) (fun b => [(b, .cells #[.int .i64 (a + 1), .int .i64 0, .int .i64 0, .int .i64 0] 146 (0, 0)), (bo, .map #[] 0), (b5, .cells #[.int .i64 a, .int .i64 0, .int .i64 0, .int .i64 0] 146 (0, 0)), (bk, .map es clock)]) ?_ fun K => ?_
      rotate_left
      · refine T.regionS [(b5, .cells #[.int .i64 a, .int .i64 0, .int .i64 0, .int .i64 0] 146 (0, 0))] 10 (by kernel_rfl) ?_; refine TS.take 0 rfl (by kernel_rfl) (by kernel_rfl) (by kernel_rfl) (by kernel_rfl) (PV.move rfl) Wanted.none rfl rfl ?_; refine TS.take 1 rfl (by kernel_rfl) (by kernel_rfl) (by kernel_rfl) (by kernel_rfl) (PV.move rfl) Wanted.none rfl rfl ?_; refine TS.take 2 rfl (by kernel_rfl) (by kernel_rfl) (by kernel_rfl) (by kernel_rfl) (PV.nilCheck rfl) Wanted.none rfl rfl ?_; refine TS.take 3 rfl (by kernel_rfl) (by kernel_rfl) (by kernel_rfl) (by kernel_rfl) (PV.loadAll rfl zq0 (by exact rfl)) Wanted.none rfl rfl ?_; refine TS.take 4 rfl (by kernel_rfl) (by kernel_rfl) (by kernel_rfl) (by kernel_rfl) (PV.loadAll rfl zq0 (by exact rfl)) Wanted.none rfl rfl ?_
        refine TS.ways [5, 9] (by kernel_rfl) rfl zq20 ⟨⟨_, rfl, ?_⟩, ⟨_, rfl, ?_⟩, trivial⟩
        · (refine T.callX Wanted.none rfl rfl hto ?_; rintro _ rfl); refine so ?_; refine TS.back ?_; refine TS.take 6 rfl (by kernel_rfl) (by kernel_rfl) (by kernel_rfl) (by kernel_rfl) (PV.move rfl) Wanted.none rfl rfl ?_; refine TS.take 7 rfl (by kernel_rfl) (by kernel_rfl) (by kernel_rfl) (by kernel_rfl) (PV.extract rfl rfl) Wanted.none rfl rfl ?_
          refine TS.ways [8, 9] (by kernel_rfl) rfl zq20 ⟨⟨_, rfl, ?_⟩, ⟨_, rfl, ?_⟩, trivial⟩
          · refine sv (PV.extract rfl rfl) ?_; refine so ?_; refine TS.back ?_
            refine TS.ways [9] (by kernel_rfl) rfl zq20 ⟨⟨_, rfl, ?_⟩, trivial⟩
            refine sy fun b10 => ?_; refine so ?_; refine TS.back ?_
            refine TS.ways [10] (by kernel_rfl) rfl zq20 ⟨⟨_, rfl, ?_⟩, trivial⟩
            refine yq9 ?_; refine TS.back ?_
            refine TS.ways [11] (by kernel_rfl) rfl zq20 ⟨⟨_, rfl, ?_⟩, trivial⟩
            refine yq0 ?_; refine TS.back ?_; refine TS.done (by kernel_rfl) (by kernel_rfl) ?_; (exact K _ _ _ trivial zq8 (by repeat (first | exact Sel.refl _ | exact Sel.nil | (refine Sel.cons zq1 ?_) | (refine Sel.app zq1 ?_) | exact Sel.one zq1)))
          · refine sy fun b10 => ?_; refine so ?_; refine TS.back ?_
            refine TS.ways [8, 10] (by kernel_rfl) rfl zq20 ⟨⟨_, rfl, ?_⟩, ⟨_, rfl, ?_⟩, trivial⟩
            · refine sv (PV.extract rfl rfl) ?_; refine so ?_; refine TS.back ?_
              refine TS.ways [10] (by kernel_rfl) rfl zq20 ⟨⟨_, rfl, ?_⟩, trivial⟩
              refine yq9 ?_; refine TS.back ?_
              refine TS.ways [11] (by kernel_rfl) rfl zq20 ⟨⟨_, rfl, ?_⟩, trivial⟩
              refine yq0 ?_; refine TS.back ?_; refine TS.done (by kernel_rfl) (by kernel_rfl) ?_; (exact K _ _ _ trivial zq8 (by repeat (first | exact Sel.refl _ | exact Sel.nil | (refine Sel.cons zq1 ?_) | (refine Sel.app zq1 ?_) | exact Sel.one zq1)))
            · refine yq9 ?_; refine TS.back ?_
              refine TS.ways [8] (by kernel_rfl) rfl zq20 ⟨⟨_, rfl, ?_⟩, trivial⟩
              refine sv (PV.extract rfl rfl) ?_; refine so ?_; refine TS.back ?_
              refine TS.ways [11] (by kernel_rfl) rfl zq20 ⟨⟨_, rfl, ?_⟩, trivial⟩
              refine yq0 ?_; refine TS.back ?_; refine TS.done (by kernel_rfl) (by kernel_rfl) ?_; (exact K _ _ _ trivial zq8 (by repeat (first | exact Sel.refl _ | exact Sel.nil | (refine Sel.cons zq1 ?_) | (refine Sel.app zq1 ?_) | exact Sel.one zq1)))
        · refine sy fun b10 => ?_; refine so ?_; refine TS.back ?_
          refine TS.ways [5] (by kernel_rfl) rfl zq20 ⟨⟨_, rfl, ?_⟩, trivial⟩
          (refine T.callX Wanted.none rfl rfl hto ?_; rintro _ rfl); refine so ?_; refine TS.back ?_; refine TS.take 6 rfl (by kernel_rfl) (by kernel_rfl) (by kernel_rfl) (by kernel_rfl) (PV.move rfl) Wanted.none rfl rfl ?_; refine TS.take 7 rfl (by kernel_rfl) (by kernel_rfl) (by kernel_rfl) (by kernel_rfl) (PV.extract rfl rfl) Wanted.none rfl rfl ?_
          refine TS.ways [8, 10] (by kernel_rfl) rfl zq20 ⟨⟨_, rfl, ?_⟩, ⟨_, rfl, ?_⟩, trivial⟩
          · refine sv (PV.extract rfl rfl) ?_; refine so ?_; refine TS.back ?_
            refine TS.ways [10] (by kernel_rfl) rfl zq20 ⟨⟨_, rfl, ?_⟩, trivial⟩
            refine yq9 ?_; refine TS.back ?_
            refine TS.ways [11] (by kernel_rfl) rfl zq20 ⟨⟨_, rfl, ?_⟩, trivial⟩
            refine yq0 ?_; refine TS.back ?_; refine TS.done (by kernel_rfl) (by kernel_rfl) ?_; (exact K _ _ _ trivial zq8 (by repeat (first | exact Sel.refl _ | exact Sel.nil | (refine Sel.cons zq1 ?_) | (refine Sel.app zq1 ?_) | exact Sel.one zq1)))
          · refine yq9 ?_; refine TS.back ?_
            refine TS.ways [8] (by kernel_rfl) rfl zq20 ⟨⟨_, rfl, ?_⟩, trivial⟩
            refine sv (PV.extract rfl rfl) ?_; refine so ?_; refine TS.back ?_
            refine TS.ways [11] (by kernel_rfl) rfl zq20 ⟨⟨_, rfl, ?_⟩, trivial⟩
            refine yq0 ?_; refine TS.back ?_; refine TS.done (by kernel_rfl) (by kernel_rfl) ?_; (exact K _ _ _ trivial zq8 (by repeat (first | exact Sel.refl _ | exact Sel.nil | (refine Sel.cons zq1 ?_) | (refine Sel.app zq1 ?_) | exact Sel.one zq1)))
      · intro b10 _
        refine yq4 ?_; refine so ?_; refine T.condT rfl rfl ?_; refine sr ?_; refine sm ?_; refine sv (PV.loadAll rfl zq0 (by exact rfl)) ?_; refine T.putMap (α := Int) un_set (st_key H) Wanted.none rfl rfl rfl (MapB.empty stV 0) [_] rfl ?_
        intro es1 ck1 hm1
        rw [show ([] : Kvs Int) = setK [] from rfl, setK_put] at hm1
        refine T.freezeB (b := bo) zq1 ?_
        intro H1 hle1 hbo
        have hR1 := hR.mono hle1
        have hr1 := hR1.r
        have hS : SetIn H1 bo (Dn c.rg kind tb te .t a) := ⟨_, _, _, hbo, hm1, fun t => by rw [addK_mem]; simp [Dn, h1]⟩
        refine so ?_; refine T.blkEnd ?_; refine sq ?_; refine T.regionT 8 (by kernel_rfl) ?_; refine TQ.pv (PV.move rfl) Wanted.none rfl rfl ?_; refine TQ.pv (PV.nilCheck rfl) Wanted.none rfl rfl ?_; refine yq1 ?_; refine TQ.pv (PV.move rfl) Wanted.none rfl rfl ?_; refine TQ.pv (PV.loadAll rfl zq0 (by exact rfl)) Wanted.none rfl rfl ?_; refine TQ.pv (PV.build rfl zq12) Wanted.none rfl rfl ?_; refine TQ.pv (PV.move rfl) Wanted.none rfl rfl ?_; refine TQ.nil ?_; refine T.putMap (a := (Pid.t, a)) un_known (ky_key hR1.q) Wanted.none rfl rfl rfl k1 [_, _] rfl ?_
        intro es2 ck2 hm2
        refine zs1 ?_; refine sm ?_; refine yq0 ?_
        exact T.retW (Lv.finW [(bk, .map es2 ck2)] zq4 (RV.tmp rfl rfl) ⟨bo, es2, ck2, rfl, hS, rfl, Kn.put (fun x v hx => by obtain ⟨b, e, hb⟩ := k2 x v hx; exact ⟨b, e, hb.mono hle1⟩) hS hm2⟩)
    · rw [if_neg h1] at hto
      refine yq11 ?_; refine yq4 ?_; refine sv (PV.nilCheck rfl) ?_; refine yq6 ?_; refine so ?_; refine T.block ?_; refine zs3 ?_; refine yq32 ?_; refine T.condT rfl rfl ?_
      (repeat refine sq ?_)
      refine T.cutK [(9, Value.map (some bo)), (5, Value.pointer (some { block := b5, off := 0 })), (0, Value.pointer (some { block := br, off := 0 })), (1, Value.pointer (some { block := bt, off := 0 }))] (γ := Nat) (fun _ => True) (fun b => [(10, .pointer (some ⟨b, 0, none⟩)), (11, .bool false)]) (fun b => [(b, .cells #[.int .i64 0, .int .i64 0, .int .i64 0, .int .i64 0] 146 (0, 0)), (bo, .map #[] 0), (b5, .cells #[.int .i64 a, .int .i64 0, .int .i64 0, .int .i64 0] 146 (0, 0)), (bk, .map es clock)]) ?_ fun K => ?_
      rotate_left
      · refine T.regionS [(b5, .cells #[.int .i64 a, .int .i64 0, .int .i64 0, .int .i64 0] 146 (0, 0))] 10 (by kernel_rfl) ?_; refine TS.take 0 rfl (by kernel_rfl) (by kernel_rfl) (by kernel_rfl) (by kernel_rfl) (PV.move rfl) Wanted.none rfl rfl ?_; refine TS.take 1 rfl (by kernel_rfl) (by kernel_rfl) (by kernel_rfl) (by kernel_rfl) (PV.move rfl) Wanted.none rfl rfl ?_; refine TS.take 2 rfl (by kernel_rfl) (by kernel_rfl) (by kernel_rfl) (by kernel_rfl) (PV.nilCheck rfl) Wanted.none rfl rfl ?_; refine TS.take 3 rfl (by kernel_rfl) (by kernel_rfl) (by kernel_rfl) (by kernel_rfl) (PV.loadAll rfl zq0 (by exact rfl)) Wanted.none rfl rfl ?_; refine TS.take 4 rfl (by kernel_rfl) (by kernel_rfl) (by kernel_rfl) (by kernel_rfl) (PV.loadAll rfl zq0 (by exact rfl)) Wanted.none rfl rfl ?_
        refine TS.ways [5, 9] (by kernel_rfl) rfl zq20 ⟨⟨_, rfl, ?_⟩, ⟨_, rfl, ?_⟩, trivial⟩
        · (refine T.callX Wanted.none rfl rfl hto ?_; rintro _ rfl); refine so ?_; refine TS.back ?_; refine TS.take 6 rfl (by kernel_rfl) (by kernel_rfl) (by kernel_rfl) (by kernel_rfl) (PV.move rfl) Wanted.none rfl rfl ?_; refine TS.take 7 rfl (by kernel_rfl) (by kernel_rfl) (by kernel_rfl) (by kernel_rfl) (PV.extract rfl rfl) Wanted.none rfl rfl ?_
          refine TS.ways [8, 9] (by kernel_rfl) rfl zq20 ⟨⟨_, rfl, ?_⟩, ⟨_, rfl, ?_⟩, trivial⟩
          · refine sv (PV.extract rfl rfl) ?_; refine so ?_; refine TS.back ?_
            refine TS.ways [9] (by kernel_rfl) rfl zq20 ⟨⟨_, rfl, ?_⟩, trivial⟩
            refine sy fun b10 => ?_; refine so ?_; refine TS.back ?_
            refine TS.ways [10] (by kernel_rfl) rfl zq20 ⟨⟨_, rfl, ?_⟩, trivial⟩
            refine yq9 ?_; refine TS.back ?_
            refine TS.ways [11] (by kernel_rfl) rfl zq20 ⟨⟨_, rfl, ?_⟩, trivial⟩
            refine yq0 ?_; refine TS.back ?_; refine TS.done (by kernel_rfl) (by kernel_rfl) ?_; (exact K _ _ _ trivial zq8 (by repeat (first | exact Sel.refl _ | exact Sel.nil | (refine Sel.cons zq1 ?_) | (refine Sel.app zq1 ?_) | exact Sel.one zq1)))
          · refine sy fun b10 => ?_; refine so ?_; refine TS.back ?_
            refine TS.ways [8, 10] (by kernel_rfl) rfl zq20 ⟨⟨_, rfl, ?_⟩, ⟨_, rfl, ?_⟩, trivial⟩
            · refine sv (PV.extract rfl rfl) ?_; refine so ?_; refine TS.back ?_
              refine TS.ways [10] (by kernel_rfl) rfl zq20 ⟨⟨_, rfl, ?_⟩, trivial⟩
              refine yq9 ?_; refine TS.back ?_
              refine TS.ways [11] (by kernel_rfl) rfl zq20 ⟨⟨_, rfl, ?_⟩, trivial⟩
              refine yq0 ?_; refine TS.back ?_; refine TS.done (by kernel_rfl) (by kernel_rfl) ?_; (exact K _ _ _ trivial zq8 (by repeat (first | exact Sel.refl _ | exact Sel.nil | (refine Sel.cons zq1 ?_) | (refine Sel.app zq1 ?_) | exact Sel.one zq1)))
            · refine yq9 ?_; refine TS.back ?_
              refine TS.ways [8] (by kernel_rfl) rfl zq20 ⟨⟨_, rfl, ?_⟩, trivial⟩
              refine sv (PV.extract rfl rfl) ?_; refine so ?_; refine TS.back ?_
              refine TS.ways [11] (by kernel_rfl) rfl zq20 ⟨⟨_, rfl, ?_⟩, trivial⟩
              refine yq0 ?_; refine TS.back ?_; refine TS.done (by kernel_rfl) (by kernel_rfl) ?_; (exact K _ _ _ trivial zq8 (by repeat (first | exact Sel.refl _ | exact Sel.nil | (refine Sel.cons zq1 ?_) | (refine Sel.app zq1 ?_) | exact Sel.one zq1)))
        · refine sy fun b10 => ?_; refine so ?_; refine TS.back ?_
          refine TS.ways [5] (by kernel_rfl) rfl zq20 ⟨⟨_, rfl, ?_⟩, trivial⟩
          (refine T.callX Wanted.none rfl rfl hto ?_; rintro _ rfl); refine so ?_; refine TS.back ?_; refine TS.take 6 rfl (by kernel_rfl) (by kernel_rfl) (by kernel_rfl) (by kernel_rfl) (PV.move rfl) Wanted.none rfl rfl ?_; refine TS.take 7 rfl (by kernel_rfl) (by kernel_rfl) (by kernel_rfl) (by kernel_rfl) (PV.extract rfl rfl) Wanted.none rfl rfl ?_
          refine TS.ways [8, 10] (by kernel_rfl) rfl zq20 ⟨⟨_, rfl, ?_⟩, ⟨_, rfl, ?_⟩, trivial⟩
          · refine sv (PV.extract rfl rfl) ?_; refine so ?_; refine TS.back ?_
            refine TS.ways [10] (by kernel_rfl) rfl zq20 ⟨⟨_, rfl, ?_⟩, trivial⟩
            refine yq9 ?_; refine TS.back ?_
            refine TS.ways [11] (by kernel_rfl) rfl zq20 ⟨⟨_, rfl, ?_⟩, trivial⟩
            refine yq0 ?_; refine TS.back ?_; refine TS.done (by kernel_rfl) (by kernel_rfl) ?_; (exact K _ _ _ trivial zq8 (by repeat (first | exact Sel.refl _ | exact Sel.nil | (refine Sel.cons zq1 ?_) | (refine Sel.app zq1 ?_) | exact Sel.one zq1)))
          · refine yq9 ?_; refine TS.back ?_
            refine TS.ways [8] (by kernel_rfl) rfl zq20 ⟨⟨_, rfl, ?_⟩, trivial⟩
            refine sv (PV.extract rfl rfl) ?_; refine so ?_; refine TS.back ?_
            refine TS.ways [11] (by kernel_rfl) rfl zq20 ⟨⟨_, rfl, ?_⟩, trivial⟩
            refine yq0 ?_; refine TS.back ?_; refine TS.done (by kernel_rfl) (by kernel_rfl) ?_; (exact K _ _ _ trivial zq8 (by repeat (first | exact Sel.refl _ | exact Sel.nil | (refine Sel.cons zq1 ?_) | (refine Sel.app zq1 ?_) | exact Sel.one zq1)))
      · intro b10 _
        refine yq4 ?_; refine so ?_; refine yq7 ?_; refine T.blkEnd ?_; refine T.freezeB (b := bo) zq1 ?_
        intro H1 hle1 hbo
        have hR1 := hR.mono hle1
        have hr1 := hR1.r
        have hS : SetIn H1 bo (Dn c.rg kind tb te .t a) := ⟨_, _, [], hbo, MapB.empty stV 0, fun t => by simp [Dn, h1]⟩
        refine sq ?_; refine T.regionT 8 (by kernel_rfl) ?_; refine TQ.pv (PV.move rfl) Wanted.none rfl rfl ?_; refine TQ.pv (PV.nilCheck rfl) Wanted.none rfl rfl ?_; refine yq1 ?_; refine TQ.pv (PV.move rfl) Wanted.none rfl rfl ?_; refine TQ.pv (PV.loadAll rfl zq0 (by exact rfl)) Wanted.none rfl rfl ?_; refine TQ.pv (PV.build rfl zq12) Wanted.none rfl rfl ?_; refine TQ.pv (PV.move rfl) Wanted.none rfl rfl ?_; refine TQ.nil ?_; refine T.putMap (a := (Pid.t, a)) un_known (ky_key hR1.q) Wanted.none rfl rfl rfl k1 [_, _] rfl ?_
        intro es2 ck2 hm2
        refine zs1 ?_; refine sm ?_; refine yq0 ?_
        exact T.retW (Lv.finW [(bk, .map es2 ck2)] zq4 (RV.tmp rfl rfl) ⟨bo, es2, ck2, rfl, hS, rfl, Kn.put (fun x v hx => by obtain ⟨b, e, hb⟩ := k2 x v hx; exact ⟨b, e, hb.mono hle1⟩) hS hm2⟩)
end

end Go.Proofs.YtbcadnjfegiakaaGreatDoor
namespace Go.Proofs.YtbcadnjfegiakaaGreatDoor
open Go.RowKit


def Pid.pn (kind : ByteArray) (bs bt : Nat) : Pid → Pn
  | .s => pS bs
  | .b => pB kind
  | .r => pR bt
  | .e => pE kind
  | .t => pT
theorem QuR.sub {H : Hp} {kind : ByteArray} {bq bs bt : Nat} (h : QuR H kind bq bs bt) (p : Pid) : SubC H (p.ad bq bs bt).block (p.ad bq bs bt).off (encPn (p.pn kind bs bt)) := by
  obtain ⟨t, fa, fn, fc, h1⟩ := h.q
  obtain ⟨t3, h3⟩ := h.p.t
  have hk := fun i (hi : i < 3) => RowL.get (l := [pB kind, pR bt, pE kind]) encPn_len h.p.ks hi
  cases p
  · exact ⟨_, t, _, h1, rfl⟩
  · obtain ⟨b, off, x, e, hx, hs⟩ := hk 0 (by omega)
    cases e
    obtain rfl := Option.some.inj hx
    exact hs
  · obtain ⟨b, off, x, e, hx, hs⟩ := hk 1 (by omega)
    cases e
    obtain rfl := Option.some.inj hx
    exact hs
  · obtain ⟨b, off, x, e, hx, hs⟩ := hk 2 (by omega)
    cases e
    obtain rfl := Option.some.inj hx
    exact hs
  · exact ⟨_, t3, _, h3, rfl⟩
section
variable {c : Cp} {kind : ByteArray} {bq bs bt br bk : Nat} {tb te : Int}
set_option maxHeartbeats 2000000 in
theorem reach_b (a : Int) : RchOk c kind bq bs bt br bk tb te .b a := by
  intro H es clock hR hK
  obtain ⟨kks, k1, k2⟩ := hK
  have hr := hR.r
  have han := anchorB_fn hR a
  have hsub := hR.q.sub .b
  unfold stV
  unfold Pid.pn Pid.ad encPn pB at hsub
  unfold pnV pB at han
  unfold Pid.ad
  dsimp only at hsub han ⊢
  refine FnW.of_T (vs := [.pointer (some ⟨br, 0, none⟩), .pointer (some ⟨bs, 0, none⟩), .agg #[.int .i64 a, .int .i64 0, .int .i64 0, .int .i64 0]]) Tryz.func76 rfl rfl fun w => ?_; refine zs3 ?_; (refine T.box Wanted.none rfl rfl zq15 ?_; intro b5); refine yq11 ?_; refine sq ?_; refine yq10 ?_; refine TQ.pv (PV.nilCheck rfl) Wanted.none rfl rfl ?_; refine yq1 ?_; refine TQ.pv (PV.move rfl) Wanted.none rfl rfl ?_; refine TQ.pv (PV.loadAll rfl zq0 (by exact rfl)) Wanted.none rfl rfl ?_; refine TQ.pv (PV.build rfl zq12) Wanted.none rfl rfl ?_
  cases hlk : lookB kks (Pid.b, a) with
  | some v =>
    obtain ⟨b, rfl, hb⟩ := k2 _ _ (lookB_some hlk)
    refine TQ.pv (PV.known1 hR.q (k := (Pid.b, a)) rfl rfl k1 (.own zq2) hlk) Wanted.none rfl rfl ?_; refine TQ.pv (PV.move rfl) Wanted.none rfl rfl ?_; refine TQ.pv (PV.extract rfl rfl) Wanted.none rfl rfl ?_; refine TQ.pv (PV.extract rfl rfl) Wanted.none rfl rfl ?_; refine TQ.pv (PV.assign rfl) Wanted.none rfl rfl ?_; refine yq34 ?_; refine yq4 ?_; refine so ?_; refine T.condT rfl rfl ?_; refine yq4 ?_; refine yq0 ?_
    exact T.retW (Lv.finW _ zq4 (RV.tmp rfl rfl) ⟨b, es, clock, rfl, hb, rfl, kks, k1, k2⟩)
  | none =>
    refine TQ.pv (PV.known0 hR.q (k := (Pid.b, a)) rfl rfl k1 (.own zq2) hlk) Wanted.none rfl rfl ?_; refine TQ.pv (PV.move rfl) Wanted.none rfl rfl ?_; refine TQ.pv (PV.extract rfl rfl) Wanted.none rfl rfl ?_; refine TQ.pv (PV.extract rfl rfl) Wanted.none rfl rfl ?_; refine TQ.pv (PV.assign rfl) Wanted.none rfl rfl ?_; refine yq34 ?_; refine yq4 ?_; refine so ?_; refine yq7 ?_; refine zs3 ?_; refine T.mkMap Wanted.none rfl ?_
    intro bo
    cases h1 : anB c.rg kind tb te a
    · rw [h1] at han
      refine yq11 ?_; refine yq4 ?_; refine sv (PV.nilCheck rfl) ?_; refine sf ?_; refine sv (PV.loadSub rfl (by assumption) rfl) ?_; refine so ?_; refine T.block ?_; refine zs3 ?_; refine yq32 ?_; refine T.condF rfl rfl ?_; refine sq ?_; refine zs3 ?_; refine yq32 ?_; refine T.condT rfl rfl ?_; refine T.skip ?_; refine T.condT rfl rfl ?_; refine sq ?_; refine yq10 ?_; refine TQ.pv (PV.move rfl) Wanted.none rfl rfl ?_; refine TQ.pv (PV.nilCheck rfl) Wanted.none rfl rfl ?_; refine TQ.pv (PV.loadSubAll rfl (by assumption) (by exact rfl)) Wanted.none rfl rfl ?_; refine yq1 ?_; refine TQ.callV Wanted.none rfl rfl (han) ?_; refine TQ.nil ?_; refine yq7 ?_; refine T.blkEnd ?_; refine T.freezeB (b := bo) zq1 ?_
      intro H1 hle1 hbo
      have hR1 := hR.mono hle1
      have hr1 := hR1.r
      have hS : SetIn H1 bo (Dn c.rg kind tb te .b a) := ⟨_, _, [], hbo, MapB.empty stV 0, fun t => by simp [Dn, h1]⟩
      refine sq ?_; refine T.regionT 8 (by kernel_rfl) ?_; refine TQ.pv (PV.move rfl) Wanted.none rfl rfl ?_; refine TQ.pv (PV.nilCheck rfl) Wanted.none rfl rfl ?_; refine yq1 ?_; refine TQ.pv (PV.move rfl) Wanted.none rfl rfl ?_; refine TQ.pv (PV.loadAll rfl zq0 (by exact rfl)) Wanted.none rfl rfl ?_; refine TQ.pv (PV.build rfl zq12) Wanted.none rfl rfl ?_; refine TQ.pv (PV.move rfl) Wanted.none rfl rfl ?_; refine TQ.nil ?_; refine T.putMap (a := (Pid.b, a)) un_known (ky_key hR1.q) Wanted.none rfl rfl rfl k1 [_] rfl ?_
      intro es2 ck2 hm2
      refine zs1 ?_; refine sm ?_; refine yq0 ?_
      exact T.retW (Lv.finW [(bk, .map es2 ck2)] zq4 (RV.tmp rfl rfl) ⟨bo, es2, ck2, rfl, hS, rfl, Kn.put (fun x v hx => by obtain ⟨b, e, hb⟩ := k2 x v hx; exact ⟨b, e, hb.mono hle1⟩) hS hm2⟩)
    · rw [h1] at han
      refine yq11 ?_; refine yq4 ?_; refine sv (PV.nilCheck rfl) ?_; refine sf ?_; refine sv (PV.loadSub rfl (by assumption) rfl) ?_; refine so ?_; refine T.block ?_; refine zs3 ?_; refine yq32 ?_; refine T.condF rfl rfl ?_; refine sq ?_; refine zs3 ?_; refine yq32 ?_; refine T.condT rfl rfl ?_; refine T.skip ?_; refine T.condT rfl rfl ?_; refine sq ?_; refine yq10 ?_; refine TQ.pv (PV.move rfl) Wanted.none rfl rfl ?_; refine TQ.pv (PV.nilCheck rfl) Wanted.none rfl rfl ?_; refine TQ.pv (PV.loadSubAll rfl (by assumption) (by exact rfl)) Wanted.none rfl rfl ?_; refine yq1 ?_; refine TQ.callV Wanted.none rfl rfl (han) ?_; refine TQ.nil ?_; refine T.condT rfl rfl ?_; refine sr ?_; refine sm ?_; refine sv (PV.loadAll rfl zq0 (by exact rfl)) ?_; refine T.putMap (α := Int) un_set (st_key H) Wanted.none rfl rfl rfl (MapB.empty stV 0) [] rfl ?_
      intro es1 ck1 hm1
      rw [show ([] : Kvs Int) = setK [] from rfl, setK_put] at hm1
      refine T.freezeB (b := bo) zq1 ?_
      intro H1 hle1 hbo
      have hR1 := hR.mono hle1
      have hr1 := hR1.r
      have hS : SetIn H1 bo (Dn c.rg kind tb te .b a) := ⟨_, _, _, hbo, hm1, fun t => by rw [addK_mem]; simp [Dn, h1]⟩
      refine so ?_; refine T.blkEnd ?_; refine sq ?_; refine T.regionT 8 (by kernel_rfl) ?_; refine TQ.pv (PV.move rfl) Wanted.none rfl rfl ?_; refine TQ.pv (PV.nilCheck rfl) Wanted.none rfl rfl ?_; refine yq1 ?_; refine TQ.pv (PV.move rfl) Wanted.none rfl rfl ?_; refine TQ.pv (PV.loadAll rfl zq0 (by exact rfl)) Wanted.none rfl rfl ?_; refine TQ.pv (PV.build rfl zq12) Wanted.none rfl rfl ?_; refine TQ.pv (PV.move rfl) Wanted.none rfl rfl ?_; refine TQ.nil ?_; refine T.putMap (a := (Pid.b, a)) un_known (ky_key hR1.q) Wanted.none rfl rfl rfl k1 [_] rfl ?_
      intro es2 ck2 hm2
      refine zs1 ?_; refine sm ?_; refine yq0 ?_
      exact T.retW (Lv.finW [(bk, .map es2 ck2)] zq4 (RV.tmp rfl rfl) ⟨bo, es2, ck2, rfl, hS, rfl, Kn.put (fun x v hx => by obtain ⟨b, e, hb⟩ := k2 x v hx; exact ⟨b, e, hb.mono hle1⟩) hS hm2⟩)
set_option maxHeartbeats 2000000 in
theorem reach_e (a : Int) : RchOk c kind bq bs bt br bk tb te .e a := by
  intro H es clock hR hK
  obtain ⟨kks, k1, k2⟩ := hK
  have hr := hR.r
  have han := anchorE_fn hR a
  have hsub := hR.q.sub .e
  unfold stV
  unfold Pid.pn Pid.ad encPn pE at hsub
  unfold pnV pE at han
  unfold Pid.ad
  dsimp only at hsub han ⊢
  refine FnW.of_T (vs := [.pointer (some ⟨br, 0, none⟩), .pointer (some ⟨bs, 0 + 2 * 13, none⟩), .agg #[.int .i64 a, .int .i64 0, .int .i64 0, .int .i64 0]]) Tryz.func76 rfl rfl fun w => ?_; refine zs3 ?_; (refine T.box Wanted.none rfl rfl zq15 ?_; intro b5); refine yq11 ?_; refine sq ?_; refine yq10 ?_; refine TQ.pv (PV.nilCheck rfl) Wanted.none rfl rfl ?_; refine yq1 ?_; refine TQ.pv (PV.move rfl) Wanted.none rfl rfl ?_; refine TQ.pv (PV.loadAll rfl zq0 (by exact rfl)) Wanted.none rfl rfl ?_; refine TQ.pv (PV.build rfl zq12) Wanted.none rfl rfl ?_
  cases hlk : lookB kks (Pid.e, a) with
  | some v =>
    obtain ⟨b, rfl, hb⟩ := k2 _ _ (lookB_some hlk)
    refine TQ.pv (PV.known1 hR.q (k := (Pid.e, a)) rfl rfl k1 (.own zq2) hlk) Wanted.none rfl rfl ?_; refine TQ.pv (PV.move rfl) Wanted.none rfl rfl ?_; refine TQ.pv (PV.extract rfl rfl) Wanted.none rfl rfl ?_; refine TQ.pv (PV.extract rfl rfl) Wanted.none rfl rfl ?_; refine TQ.pv (PV.assign rfl) Wanted.none rfl rfl ?_; refine yq34 ?_; refine yq4 ?_; refine so ?_; refine T.condT rfl rfl ?_; refine yq4 ?_; refine yq0 ?_
    exact T.retW (Lv.finW _ zq4 (RV.tmp rfl rfl) ⟨b, es, clock, rfl, hb, rfl, kks, k1, k2⟩)
  | none =>
    refine TQ.pv (PV.known0 hR.q (k := (Pid.e, a)) rfl rfl k1 (.own zq2) hlk) Wanted.none rfl rfl ?_; refine TQ.pv (PV.move rfl) Wanted.none rfl rfl ?_; refine TQ.pv (PV.extract rfl rfl) Wanted.none rfl rfl ?_; refine TQ.pv (PV.extract rfl rfl) Wanted.none rfl rfl ?_; refine TQ.pv (PV.assign rfl) Wanted.none rfl rfl ?_; refine yq34 ?_; refine yq4 ?_; refine so ?_; refine yq7 ?_; refine zs3 ?_; refine T.mkMap Wanted.none rfl ?_
    intro bo
    cases h1 : anE c.rg kind tb te a
    · rw [h1] at han
      refine yq11 ?_; refine yq4 ?_; refine sv (PV.nilCheck rfl) ?_; refine sf ?_; refine sv (PV.loadSub rfl (by assumption) rfl) ?_; refine so ?_; refine T.block ?_; refine zs3 ?_; refine yq32 ?_; refine T.condF rfl rfl ?_; refine sq ?_; refine zs3 ?_; refine yq32 ?_; refine T.condF rfl rfl ?_; refine sr ?_; refine yq32 ?_; refine T.condT rfl rfl ?_; refine sq ?_; refine yq10 ?_; refine TQ.pv (PV.move rfl) Wanted.none rfl rfl ?_; refine TQ.pv (PV.nilCheck rfl) Wanted.none rfl rfl ?_; refine TQ.pv (PV.loadSubAll rfl (by assumption) (by exact rfl)) Wanted.none rfl rfl ?_; refine yq1 ?_; refine TQ.callV Wanted.none rfl rfl (han) ?_; refine TQ.nil ?_; refine yq7 ?_; refine T.blkEnd ?_; refine T.freezeB (b := bo) zq1 ?_
      intro H1 hle1 hbo
      have hR1 := hR.mono hle1
      have hr1 := hR1.r
      have hS : SetIn H1 bo (Dn c.rg kind tb te .e a) := ⟨_, _, [], hbo, MapB.empty stV 0, fun t => by simp [Dn, h1]⟩
      refine sq ?_; refine T.regionT 8 (by kernel_rfl) ?_; refine TQ.pv (PV.move rfl) Wanted.none rfl rfl ?_; refine TQ.pv (PV.nilCheck rfl) Wanted.none rfl rfl ?_; refine yq1 ?_; refine TQ.pv (PV.move rfl) Wanted.none rfl rfl ?_; refine TQ.pv (PV.loadAll rfl zq0 (by exact rfl)) Wanted.none rfl rfl ?_; refine TQ.pv (PV.build rfl zq12) Wanted.none rfl rfl ?_; refine TQ.pv (PV.move rfl) Wanted.none rfl rfl ?_; refine TQ.nil ?_; refine T.putMap (a := (Pid.e, a)) un_known (ky_key hR1.q) Wanted.none rfl rfl rfl k1 [_] rfl ?_
      intro es2 ck2 hm2
      refine zs1 ?_; refine sm ?_; refine yq0 ?_
      exact T.retW (Lv.finW [(bk, .map es2 ck2)] zq4 (RV.tmp rfl rfl) ⟨bo, es2, ck2, rfl, hS, rfl, Kn.put (fun x v hx => by obtain ⟨b, e, hb⟩ := k2 x v hx; exact ⟨b, e, hb.mono hle1⟩) hS hm2⟩)
    · rw [h1] at han
      refine yq11 ?_; refine yq4 ?_; refine sv (PV.nilCheck rfl) ?_; refine sf ?_; refine sv (PV.loadSub rfl (by assumption) rfl) ?_; refine so ?_; refine T.block ?_; refine zs3 ?_; refine yq32 ?_; refine T.condF rfl rfl ?_; refine sq ?_; refine zs3 ?_; refine yq32 ?_; refine T.condF rfl rfl ?_; refine sr ?_; refine yq32 ?_; refine T.condT rfl rfl ?_; refine sq ?_; refine yq10 ?_; refine TQ.pv (PV.move rfl) Wanted.none rfl rfl ?_; refine TQ.pv (PV.nilCheck rfl) Wanted.none rfl rfl ?_; refine TQ.pv (PV.loadSubAll rfl (by assumption) (by exact rfl)) Wanted.none rfl rfl ?_; refine yq1 ?_; refine TQ.callV Wanted.none rfl rfl (han) ?_; refine TQ.nil ?_; refine T.condT rfl rfl ?_; refine sr ?_; refine sm ?_; refine sv (PV.loadAll rfl zq0 (by exact rfl)) ?_
      refine T.putMap (α := Int) un_set (st_key H) Wanted.none rfl rfl rfl (MapB.empty stV 0) [] rfl ?_
      intro es1 ck1 hm1
      rw [show ([] : Kvs Int) = setK [] from rfl, setK_put] at hm1
      refine T.freezeB (b := bo) zq1 ?_
      intro H1 hle1 hbo
      have hR1 := hR.mono hle1
      have hr1 := hR1.r
      have hS : SetIn H1 bo (Dn c.rg kind tb te .e a) := ⟨_, _, _, hbo, hm1, fun t => by rw [addK_mem]; simp [Dn, h1]⟩
      refine so ?_; refine T.blkEnd ?_; refine sq ?_; refine T.regionT 8 (by kernel_rfl) ?_; refine TQ.pv (PV.move rfl) Wanted.none rfl rfl ?_; refine TQ.pv (PV.nilCheck rfl) Wanted.none rfl rfl ?_; refine yq1 ?_; refine TQ.pv (PV.move rfl) Wanted.none rfl rfl ?_; refine TQ.pv (PV.loadAll rfl zq0 (by exact rfl)) Wanted.none rfl rfl ?_; refine TQ.pv (PV.build rfl zq12) Wanted.none rfl rfl ?_; refine TQ.pv (PV.move rfl) Wanted.none rfl rfl ?_; refine TQ.nil ?_; refine T.putMap (a := (Pid.e, a)) un_known (ky_key hR1.q) Wanted.none rfl rfl rfl k1 [_] rfl ?_
      intro es2 ck2 hm2
      refine zs1 ?_; refine sm ?_; refine yq0 ?_
      exact T.retW (Lv.finW [(bk, .map es2 ck2)] zq4 (RV.tmp rfl rfl) ⟨bo, es2, ck2, rfl, hS, rfl, Kn.put (fun x v hx => by obtain ⟨b, e, hb⟩ := k2 x v hx; exact ⟨b, e, hb.mono hle1⟩) hS hm2⟩)
end

end Go.Proofs.YtbcadnjfegiakaaGreatDoor
namespace Go.Proofs.YtbcadnjfegiakaaGreatDoor
open Go.RowKit


/-- a round over the states from which it leads -/
structure LdG where
  seen : Array Nat
  left : Kvs Int
  done : List Int
  H : Hp
  eo : Array MapEntry
  co : Nat
  lo : List Int
  ek : Array MapEntry
  ck : Nat
/-- a round over the states to which one leads -/
structure LeG where
  seen : Array Nat
  left : Kvs Int
  done : List Int
  eo : Array MapEntry
  co : Nat
  lo : List Int
theorem perm_step {α : Type} {lf done : List α} {left left' : Kvs α} {a : α} {v : Value} (h : lf.Perm (done ++ left.map (·.1))) (hp : left.Perm ((a, v) :: left')) : lf.Perm ((done ++ [a]) ++ left'.map (·.1)) := by
  have h2 : (left.map (·.1)).Perm (a :: left'.map (·.1)) := hp.map _
  rw [List.append_assoc]
  exact h.trans (List.Perm.append_left done h2)
theorem len_step {α : Type} {left left' : Kvs α} {a : α} {v : Value} (hp : left.Perm ((a, v) :: left')) : left'.length < left.length := by
  rw [hp.length_eq]; exact Nat.lt_succ_self _
section
variable {c : Cp} {kind : ByteArray} {bq bs bt br bk : Nat} {tb te : Int}
set_option maxHeartbeats 4000000 in
theorem lead_fn (p : Pid) (bf : Nat) (ef : Array MapEntry) (cf : Nat) (lf : List Int) (H : Hp) (es : Array MapEntry) (clock : Nat) (hR : RunR H c kind bq bs bt br bk tb te) (hK : Kn H bq bs bt c.rg kind tb te es clock)
    (hbf : H bf = some (.map ef cf)) (hsf : SetB stV ef cf lf) (hre : ∀ s ∈ lf, RchOk c kind bq bs bt br bk tb te p s) :
    FnW Tryz.prog 154 #[.pointer (some ⟨br, 0, none⟩), .pointer (some (p.ad bq bs bt)), .map (some bf)] H [(bk, .map es clock)] (RchR bq bs bt bk c.rg kind tb te (fun t => ∃ s ∈ lf, Dn c.rg kind tb te p s t)) := by
  refine FnW.of_T (vs := [.pointer (some ⟨br, 0, none⟩), .pointer (some (p.ad bq bs bt)), .map (some bf)]) Tryz.func154 rfl rfl fun w => ?_; refine zs3 ?_; refine yq14 ?_; refine T.mkMap Wanted.none rfl ?_
  intro bo
  refine yq11 ?_; refine yq4 ?_; refine T.rangeMap un_set Wanted.none rfl rfl hsf (.fro hbf) ?_
  intro r1 hr1
  refine so ?_; refine T.block ?_; refine T.loopK [(12, Value.pointer (some { block := r1, off := 0 })), (7, Value.map (some bo)), (0, Value.pointer (some { block := br, off := 0 })), (1, Value.pointer (some (Pid.ad bq bs bt p)))] zq8 (γ := LdG) (fun g => H.le g.H ∧ Rnd stV ef cf cf cf g.seen g.left ∧ lf.Perm (g.done ++ g.left.map (·.1)) ∧ SetB stV g.eo g.co g.lo ∧ (∀ t, t ∈ g.lo ↔ ∃ s ∈ g.done, Dn c.rg kind tb te p s t) ∧ Kn g.H bq bs bt c.rg kind tb te g.ek g.ck) (fun _ => []) (fun g => [(r1, .mapIter (some bf) cf g.seen cf), (bo, .map g.eo g.co), (bk, .map g.ek g.ck)]) (fun g => g.H) (fun g => g.left.length) ⟨#[], setK lf, [], H, #[], 0, [], es, clock⟩ ⟨Hp.le.refl _, hr1, by rw [setK_keys]; exact List.Perm.refl _, MapB.empty stV 0, by simp, hK⟩ zq8 (by repeat (first | exact Sel.refl _ | exact Sel.nil | (refine Sel.cons zq1 ?_) | (refine Sel.app zq1 ?_) | exact Sel.one zq1)) rfl ?_
  rintro ⟨seen, left, done, H1, eo, co, lo, ek, ck⟩ ⟨g1, g2, g3, g4, g5, g6⟩
  dsimp only at g1 g2 g3 g4 g5 g6 ⊢
  refine zs3 ?_; refine T.nextMap Wanted.none rfl rfl (.fro (g1 _ _ hbf)) g2 [] rfl ?_ ?_
  · intro hl
    subst hl
    refine sv (PV.extract rfl rfl) ?_; refine so ?_; refine sq ?_; refine yq22 ?_; refine yq4 ?_; refine yq0 ?_; refine T.freezeB (b := bo) zq1 ?_
    intro H2 hle2 hbo
    rw [List.map_nil, List.append_nil] at g3
    exact T.retW (Lv.finW [(bk, .map ek ck)] zq4 (RV.tmp rfl rfl) ⟨bo, ek, ck, rfl, ⟨_, _, lo, hbo, g4, fun t => (g5 t).trans ⟨fun ⟨s, h1, h2⟩ => ⟨s, g3.mem_iff.2 h1, h2⟩, fun ⟨s, h1, h2⟩ => ⟨s, g3.mem_iff.1 h1, h2⟩⟩⟩, rfl, g6.mono hle2⟩)
  · intro s v left' seen' hp g2' hcur
    refine sv (PV.extract rfl rfl) ?_; refine so ?_; refine sq ?_; refine T.condT rfl rfl ?_; refine T.skip ?_; refine T.block ?_; refine zs3 ?_; refine T.pv (PV.entryMap rfl (.fro (g1 _ _ hbf)) g2'.nd hcur zq2) Wanted.none rfl rfl ?_; refine sv (PV.extract rfl rfl) ?_; refine sy fun b8 => ?_; refine yq13 ?_; refine sm ?_; refine sm ?_; refine sv (PV.loadAll rfl zq0 (by exact rfl)) ?_
    have hsm : s ∈ lf := g3.mem_iff.2 (List.mem_append_right _ (hp.mem_iff (a := (s, v)) |>.2 List.mem_cons_self |> fun h => List.mem_map.2 ⟨_, h, rfl⟩))
    refine T.callW Wanted.none rfl rfl (hre s hsm H1 ek ck (hR.mono g1) g6) zq1 ?_
    rintro _ H2 _ hle2 ⟨b, ek2, ck2, rfl, ⟨er, cr, lr, hb, hsr, hmr⟩, rfl, hK2⟩
    skip
    refine T.rangeMap un_set Wanted.none rfl rfl hsr (.fro hb) ?_
    intro r2 hr2
    refine so ?_; refine T.block ?_; refine T.loopK [(21, Value.pointer (some { block := r2, off := 0 })), (12, Value.pointer (some { block := r1, off := 0 })), (7, Value.map (some bo)), (0, Value.pointer (some { block := br, off := 0 })), (1, Value.pointer (some (Pid.ad bq bs bt p)))] zq8 (γ := LeG) (fun g => Rnd stV er cr cr cr g.seen g.left ∧ lr.Perm (g.done ++ g.left.map (·.1)) ∧ SetB stV g.eo g.co g.lo ∧ (∀ t, t ∈ g.lo ↔ t ∈ lo ∨ t ∈ g.done)) (fun _ => []) (fun g => [(r2, .mapIter (some b) cr g.seen cr), (r1, .mapIter (some bf) cf seen' cf), (bo, .map g.eo g.co), (bk, .map ek2 ck2)]) (fun g => H2) (fun g => g.left.length) ⟨#[], setK lr, [], eo, co, lo⟩ ⟨hr2, by rw [setK_keys]; exact List.Perm.refl _, g4, by simp⟩ zq8 (by repeat (first | exact Sel.refl _ | exact Sel.nil | (refine Sel.cons zq1 ?_) | (refine Sel.app zq1 ?_) | exact Sel.one zq1)) rfl ?_
    rintro ⟨seen2, left2, done2, eo2, co2, lo2⟩ ⟨q1, q2, q3, q4⟩
    dsimp only at q1 q2 q3 q4 ⊢
    refine zs3 ?_; refine T.nextMap Wanted.none rfl rfl (.fro hb) q1 [] rfl ?_ ?_
    · intro hl
      subst hl
      rw [List.map_nil, List.append_nil] at q2
      refine sv (PV.extract rfl rfl) ?_; refine so ?_; refine sq ?_; refine yq22 ?_; refine T.blkEnd ?_
      refine T.nextP ⟨seen', left', done ++ [s], H2, eo2, co2, lo2, ek2, ck2⟩ ⟨g1.trans hle2, g2', perm_step g3 hp, q3, fun t => ?_, hK2⟩ (len_step hp) zq8 (by repeat (first | exact Sel.refl _ | exact Sel.nil | (refine Sel.cons zq1 ?_) | (refine Sel.app zq1 ?_) | exact Sel.one zq1)) rfl
      dsimp only
      rw [q4 t, g5 t, ← q2.mem_iff, hmr t]
      constructor
      · rintro (⟨x, h1, h2⟩ | h)
        · exact ⟨x, List.mem_append_left _ h1, h2⟩
        · exact ⟨s, by simp, h⟩
      · rintro ⟨x, h1, h2⟩
        rcases List.mem_append.1 h1 with h1 | h1
        · exact .inl ⟨x, h1, h2⟩
        · obtain rfl := List.mem_singleton.1 h1
          exact .inr h2
    · intro t v2 left2' seen2' hp2 q1' hcur2
      refine sv (PV.extract rfl rfl) ?_; refine so ?_; refine sq ?_; refine T.condT rfl rfl ?_; refine T.skip ?_; refine T.block ?_; refine zs3 ?_; refine sv (PV.entryMap rfl (.fro hb) q1'.nd hcur2 zq2) ?_; refine sv (PV.extract rfl rfl) ?_; refine sy fun b9 => ?_; refine T.storeA Wanted.none rfl rfl zq8 (by exact rfl) zq14 zq13 ?_; refine zs2 ?_; refine sm ?_; refine sv (PV.loadAll rfl zq0 (by exact rfl)) ?_; refine T.putMap (α := Int) un_set (st_key H2) Wanted.none rfl rfl rfl q3 [_, _, _] rfl ?_
      intro eo3 co3 hm
      rw [setK_put] at hm
      refine so ?_; refine T.blkEnd ?_
      refine T.nextP ⟨seen2', left2', done2 ++ [t], eo3, co3, addK lo2 t⟩ ⟨q1', perm_step q2 hp2, hm, fun x => ?_⟩ (len_step hp2) zq8 (by repeat (first | exact Sel.refl _ | exact Sel.nil | (refine Sel.cons zq1 ?_) | (refine Sel.app zq1 ?_) | exact Sel.one zq1)) rfl
      dsimp only
      rw [addK_mem, q4 x, List.mem_append, List.mem_singleton, or_assoc]
end

end Go.Proofs.YtbcadnjfegiakaaGreatDoor
