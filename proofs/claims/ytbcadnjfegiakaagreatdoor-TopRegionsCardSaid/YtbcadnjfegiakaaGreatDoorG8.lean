/- made corpora: Validate comes to an end: constituents.
   made corpora: Valid; what Concat calls.
   made corpora: what Concat needs: rows that are turned part by part. -/
import Derived.Test.YtbcadnjfegiakaaGreatDoorG7
namespace Go.Proofs.YtbcadnjfegiakaaGreatDoor
open Go.RowKit


structure DeG where
  i : Nat
  lv : List (Nat × Obj)
  l : List Int
end Go.Proofs.YtbcadnjfegiakaaGreatDoor
namespace Go.Proofs.YtbcadnjfegiakaaGreatDoor
open Go.RowKit


theorem InL.of {H : Hp} {v : Value} {n : Nat} {l : List Int} (hl : l.length = n) (h : SlR H 1 v n (l.flatMap encI)) : InL H v l := by subst hl; exact h
theorem StL.of {H : Hp} {v : Value} {n : Nat} {l : List ByteArray} (hl : l.length = n) (h : SlR H 1 v n (l.flatMap encT)) : StL H v l := by subst hl; exact h
end Go.Proofs.YtbcadnjfegiakaaGreatDoor
namespace Go.Proofs.YtbcadnjfegiakaaGreatDoor
open Go.RowKit


section
variable {P : Program} {X : Cx} {e : Env} {l : List (Nat × Obj)} {H : Hp} {D : List Deferred} {k : List It}
/-- A block is given up for writing, wherever it lies. -/
theorem T.freezeB {b : Nat} {o : Obj} {r : List (Nat × Obj)} (hpk : Pick l [(b, o)] r) (h : ∀ H', H.le H' → H' b = some o → T P X e r H' D k) : T P X e l H D k :=
  T.perm hpk.perm (T.mk fun a w ha hw => by
    have hn := (hw.own (b, o) List.mem_cons_self).2.1
    exact (h _ (Hp.le_put hn) Hp.put_same).get a w ha (Wd.freeze hw))
theorem RV.ct {fn : Func} {p r : Tmp} {t : TypeId} {v1 v2 : Value} (h : fn.results = #[.cell p t, .tmp r]) (hv : CV P e l H p t v1) (hv2 : e.get r = some v2) : RV P fn e l H (.tuple #[v1, v2]) := RV.mk fun X D a w ha hw => by
  unfold CV at hv
  obtain ⟨a1, g1, h1⟩ := hv
  have h1 := h1 X w hw
  simp [results, h, ha.get _ _ g1, ha.get _ _ hv2, asAddr, h1]
end
structure CpO (H : Hp) (c : Cp) (aa : Option Addr) (ca : Nat) (at1 : Option Addr) (ct : Nat) (ax : Option Addr) (cx : Nat) (ar : Option Addr) (cr : Nat) (an : Option Addr) (cn : Nat) (ah : Option Addr) (ch : Nat) (as1 : Option Addr) (cs : Nat) : Prop where
  a : SlR H 2 (.slice aa c.att.length ca) c.att.length (c.att.flatMap encAt)
  t : SlR H 1 (.slice at1 c.tk.length ct) c.tk.length (c.tk.flatMap encTk)
  x : RgL H (.slice ax c.tx.length cx) c.tx
  r : RgL H (.slice ar c.rg.length cr) c.rg
  n : NdL H (.slice an c.nd.length cn) c.nd
  h : InL H (.slice ah c.hd.length ch) c.hd
  s : StL H (.slice as1 c.rl.length cs) c.rl
  tO : ∀ t ∈ c.tk, TkOk H t
theorem CpO.mono {H H' : Hp} {c : Cp} {aa ca at1 ct ax cx ar cr an cn ah ch as1 cs} (h : CpO H c aa ca at1 ct ax cx ar cr an cn ah ch as1 cs) (hl : H.le H') : CpO H' c aa ca at1 ct ax cx ar cr an cn ah ch as1 cs :=
  ⟨h.a.mono hl, h.t.mono hl, h.x.mono hl, h.r.mono hl, h.n.mono hl, h.h.mono hl, h.s.mono hl, fun t ht => (h.tO t ht).mono hl⟩
end Go.Proofs.YtbcadnjfegiakaaGreatDoor
