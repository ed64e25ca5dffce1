/- the example: tags.
   the example: a tag with a key.
   Own layer: one deferred closure that does not recover; the closure of ParseTag at a return.
   the example: ParseTag.
   the example: tags that are read, walked.
   the example: its lines. -/
import Derived.Recover
import Derived.Tactics2
import Derived.Laws.Pointers
import Derived.Test.YtecogbhbkccblaaGreatDoorGG
set_option maxRecDepth 4000
set_option maxHeartbeats 40000000
set_option linter.all false
namespace Go.Proofs.YtecogbhbkccblaaGreatDoor
open Go.RowKit


abbrev tgV (cl : Bool) (nm : ByteArray) (kv : Value) : Value := .agg #[.bool cl, .string nm, kv]
theorem tag_open (b n : Nat) (s : ByteArray) (c1 : UInt8) (H : Hp) (h0 : s.data.toList[0]? = some 60) (h1 : s.data.toList[1]? = some c1) (h1n : (c1.toNat : Int) ≠ 47) (hn : NmAt s 1 n) (hg : s.data.toList[n]? = some 62) (hz : s.size = n + 1) (hs : s.size ≤ 1000) :
    FnS Tryz.prog 190 #[.pointer (some ⟨b, 0, none⟩)] H [scB b s 0] (tgV false (s.extract 1 n) (.slice none 0 0)) [scB b s (n + 1)] := by
  have he0 := eat_fnS b 0 s 60 60 H h0 rfl zO
  have hs1 := sees_fnS b 1 s 47 c1 H h1
  rw [decide_eq_false h1n] at hs1
  have hnm := name_fnS b 1 n s H hn hs
  have hs2 := sees_fnS b n s 32 62 H hg
  rw [decide_eq_false zD] at hs2
  have he3 := eat_fnS b n s 62 62 H hg rfl zO
  have hso := sorted_nil H
  refine FnW.of_T (vs := [.pointer (some ⟨b, 0, none⟩)]) Tryz.func190 rfl rfl fun w => ?_; refine zs3 ?_; refine sy fun b2 => ?_; refine zs1 ?_; refine sy fun b3 => ?_; refine J4 ?_; (refine T.callWV Wanted.none rfl rfl he0 zq1 ?_); refine J5 ?_; (refine T.callWV Wanted.none rfl rfl hs1 zq1 ?_); refine J6 ?_; (refine T.callWV Wanted.none rfl rfl hnm zq1 ?_); refine sf ?_; refine yq1 ?_; refine J3 ?_; refine T.rounds 1 ?_; refine J8 ?_; (refine T.callWV (Wanted.guard rfl rfl rfl) rfl rfl hs2 zq1 ?_); refine J7 ?_; (refine T.callWV Wanted.none rfl rfl he3 zq1 ?_)
  refine J3 ?_; refine yq70 ?_; refine I11 ?_; refine J6 ?_; refine T.callV Wanted.none rfl rfl (hso) ?_; refine sf ?_; refine yq1 ?_; refine J4 ?_; refine yq2 ?_; refine so ?_
  exact T.retW (Lv.finW [scB b s (n + 1)] zq4 (RV.cell rfl (by exact CV.agg rfl zq0 zX)) ⟨rfl, rfl, rfl⟩)
theorem tag_close (b n : Nat) (s : ByteArray) (H : Hp) (h0 : s.data.toList[0]? = some 60) (h1 : s.data.toList[1]? = some 47) (hn : NmAt s 2 n) (hg : s.data.toList[n]? = some 62) (hz : s.size = n + 1) (hs : s.size ≤ 1000) :
    FnS Tryz.prog 190 #[.pointer (some ⟨b, 0, none⟩)] H [scB b s 0] (tgV true (s.extract 2 n) (.slice none 0 0)) [scB b s (n + 1)] := by
  have he0 := eat_fnS b 0 s 60 60 H h0 rfl zO
  have hs1 := sees_fnS b 1 s 47 47 H h1
  rw [decide_eq_true zD] at hs1
  have hnm := name_fnS b 2 n s H hn hs
  have he3 := eat_fnS b n s 62 62 H hg rfl zO
  have hso := sorted_nil H
  refine FnW.of_T (vs := [.pointer (some ⟨b, 0, none⟩)]) Tryz.func190 rfl rfl fun w => ?_; refine zs3 ?_; refine sy fun b2 => ?_; refine zs1 ?_; refine sy fun b3 => ?_; refine J4 ?_; (refine T.callWV Wanted.none rfl rfl he0 zq1 ?_); refine J5 ?_; (refine T.callWV Wanted.none rfl rfl hs1 zq1 ?_); refine J11 ?_; refine yq1 ?_; refine J3 ?_; refine yq1 ?_; refine J4 ?_; (refine T.callWV Wanted.none rfl rfl hnm zq1 ?_); refine sf ?_; refine yq1 ?_; refine J3 ?_; refine T.rounds 1 ?_; refine J5 ?_
  refine J11 ?_; (refine T.callWV Wanted.none rfl rfl he3 zq1 ?_); refine J3 ?_; refine yq70 ?_; refine I11 ?_; refine J6 ?_; refine T.callV Wanted.none rfl rfl (hso) ?_; refine sf ?_; refine yq1 ?_; refine J4 ?_; refine yq2 ?_; refine so ?_
  exact T.retW (Lv.finW [scB b s (n + 1)] zq4 (RV.cell rfl (by exact CV.agg rfl zq0 zX)) ⟨rfl, rfl, rfl⟩)

end Go.Proofs.YtecogbhbkccblaaGreatDoor
namespace Go.Proofs.YtecogbhbkccblaaGreatDoor
open Go.RowKit


theorem tag_key (b n m q : Nat) (s : ByteArray) (ck : UInt8) (H : Hp) (h0 : s.data.toList[0]? = some 60) (c1 : UInt8) (h1 : s.data.toList[1]? = some c1) (h1n : (c1.toNat : Int) ≠ 47) (hn : NmAt s 1 n) (hsp : s.data.toList[n]? = some 32)
    (hck : s.data.toList[n + 1]? = some ck) (hck2 : (ck.toNat : Int) ≠ 32) (hm : NmAt s (n + 1) m) (he : s.data.toList[m]? = some 61) (hq : s.data.toList[m + 1]? = some 34) (hv : VlAt s (m + 2) q) (hg : s.data.toList[q + 1]? = some 62) (hz : s.size = q + 2) (hs : s.size ≤ 1000) :
    FnW Tryz.prog 190 #[.pointer (some ⟨b, 0, none⟩)] H [scB b s 0] (fun u H' l' => ∃ kv, u = tgV false (s.extract 1 n) kv ∧ SlR H' 2 kv 1 [.string (s.extract (n + 1) m), .string (s.extract (m + 2) q)] ∧ l' = [scB b s (q + 2)]) := by
  have hl : s.data.toList.length = s.size := Array.length_toList
  have hnl := (List.getElem?_eq_some_iff.1 hsp).1
  have he0 := eat_fnS b 0 s 60 60 H h0 rfl zO
  have hs1 := sees_fnS b 1 s 47 c1 H h1
  rw [decide_eq_false h1n] at hs1
  have hnm := name_fnS b 1 n s H hn hs
  have hs2 := sees_fnS b n s 32 32 H hsp
  rw [decide_eq_true zD] at hs2
  have hs3 := sees_fnS b (n + 1) s 32 ck H hck
  rw [decide_eq_false hck2] at hs3
  have hke := key_fnS b (n + 1) m q s H hm he hq hv hs
  have hs4 := fun H' => sees_fnS b (q + 1) s 32 62 H' hg
  rw [decide_eq_false zD] at hs4
  have he3 := fun H' => eat_fnS b (q + 1) s 62 62 H' hg rfl zO
  refine FnW.of_T (vs := [.pointer (some ⟨b, 0, none⟩)]) Tryz.func190 rfl rfl fun w => ?_; refine zs3 ?_; refine sy fun b2 => ?_; refine zs1 ?_; refine sy fun b3 => ?_; refine J4 ?_; (refine T.callWV Wanted.none rfl rfl he0 zq1 ?_); refine J5 ?_; (refine T.callWV Wanted.none rfl rfl hs1 zq1 ?_); refine J6 ?_; (refine T.callWV Wanted.none rfl rfl hnm zq1 ?_); refine sf ?_; refine yq1 ?_; refine J3 ?_; refine T.rounds 2 ?_; refine J8 ?_; (refine T.callWV (Wanted.guard rfl rfl rfl) rfl rfl hs2 zq1 ?_); refine J7 ?_
  refine T.rounds 2 ?_; refine J4 ?_; (refine T.callWV Wanted.none rfl rfl hs2 zq1 ?_); refine J12 ?_; refine yq1 ?_; refine J2 ?_; refine T.again ?_; refine J4 ?_; (refine T.callWV Wanted.none rfl rfl hs3 zq1 ?_); refine J3 ?_; refine T.regionS [(b3, .cells #[.bool false, .string (s.extract 1 n), .slice none 0 0] 216 (0, 0))] 9 zK ?_; refine TS.take 0 rfl zK zK zK zK (PV.fieldAddr rfl) Wanted.none rfl rfl ?_; refine TS.take 1 rfl zK zK zK zK (PV.load1 rfl zq0 rfl) Wanted.none rfl rfl ?_; refine TS.take 2 rfl zK zK zK zK (PV.move rfl) Wanted.none rfl rfl ?_; refine TS.take 3 rfl zK zK zK zK (PV.fieldAddr rfl) Wanted.none rfl rfl ?_; refine yq104 ?_
  refine TS.ways [5] zK rfl zq20 ⟨⟨_, rfl, ?_⟩, trivial⟩
  (refine T.callWV Wanted.none rfl rfl hke zq1 ?_); refine yq4 ?_
  refine TS.ways [6] zK rfl zq20 ⟨⟨_, rfl, ?_⟩, trivial⟩
  (refine T.buildSlice Wanted.none rfl rfl zq11 zX zX ?_; intro b41); refine yq4 ?_
  refine yq91 ?_
  (refine T.appendP (lv := []) Wanted.none rfl rfl rfl (Vec.nil 170 2) (Src.cells (m := 1) (ys := [.string (s.extract (n + 1) m), .string (s.extract (m + 2) q)]) (.own zq2) rfl rfl) (by intro v hv; simp at hv; rcases hv with rfl | rfl <;> rfl) zO zq1 ?_; intro v42 lv42 hv42 _; obtain ⟨ad42, cap42, rfl⟩ := hv42.val); refine yq4 ?_; refine TS.take 8 rfl zK zK zK zK (PV.fieldAddr rfl) Wanted.none rfl rfl ?_
  refine yq68 ?_
  refine yq75 ?_; refine T.blkEnd ?_; refine T.again ?_; refine J8 ?_; refine T.freezeP (lv := lv42) hv42 zq1 ?_
  intro H1 hle1 hsl1
  have hs4 := hs4 H1
  have he3 := he3 H1
  have hso := sorted_one (s.extract (n + 1) m) (s.extract (m + 2) q) (.slice ad42 (0 + 1) cap42) H1 hsl1
  (refine T.callWV (Wanted.guard rfl rfl rfl) rfl rfl hs4 zq1 ?_); refine J7 ?_; (refine T.callWV Wanted.none rfl rfl he3 zq1 ?_); refine J3 ?_; refine yq70 ?_; refine I11 ?_; refine J6 ?_; refine T.call Wanted.none rfl rfl hso ?_
  rintro u H2 hle2 hu
  obtain ⟨adu, capu, rfl⟩ := hu.len
  refine sf ?_; refine yq1 ?_; refine J4 ?_; refine yq2 ?_; refine so ?_
  exact T.retW (Lv.finW [scB b s (q + 1 + 1)] zq4 (RV.cell rfl (by exact CV.agg rfl zq0 zX)) ⟨_, rfl, hu, rfl⟩)

end Go.Proofs.YtecogbhbkccblaaGreatDoor
namespace Go.Proofs.YtecogbhbkccblaaGreatDoor
open Go.RowKit


theorem callsDIn_S {P : Program} {f : FuncId} {fn : Func} {c : Code} {args : Array Value} {u : FrameMode} {w : World} {R : Ending → FrameMode → World → Prop} (hR1 : ∀ ch u' w', ¬ R (.panicked ch) u' w') (hR2 : ∀ u' w', ¬ R .outgrown u' w')
    (hf : P.funcs[f]? = some fn) (hb : fn.body = some c)
    (h : ∀ (c₀ : Frame) (cs : List Frame), c₀.mode = u → c.wpS P (bodyPostS P fn c₀ cs R) { tmps := args ++ Array.replicate (fn.ntmps - args.size) undef, defers := [] } (c₀ :: cs) w) :
    CallsDIn Fence.wide 0 P f args u w R := by
  refine ⟨trivial, fun c₀ cs hu _ => ?_⟩
  let b : Frame := { (default : Frame) with fn := f, kind := .deferred }
  have henter : Frame.enter P f args .deferred = b.at { tmps := args ++ Array.replicate (fn.ntmps - args.size) undef, defers := [] } [.code c] := by
    simp [Frame.enter, Frame.at, hf, hb, b]
  obtain ⟨e, a', cs', w', hq, harr⟩ := h c₀ cs hu b [] rfl rfl
  rw [← henter] at harr
  cases e with
  | normal =>
    obtain ⟨hd, u', rfl, v, hr, hR⟩ := hq
    exact ⟨.returned v, u', w', _, hR, comesIn_wide.2 (Steps.trans harr (.one step_end)), rfl, rfl, rfl, hd, fn, hf, hr⟩
  | ret =>
    obtain ⟨hd, u', rfl, v, hr, hR⟩ := hq
    obtain ⟨todo, hs⟩ := harr
    exact ⟨.returned v, u', w', _, hR, comesIn_wide.2 hs, rfl, rfl, rfl, hd, fn, hf, hr⟩
  | panic ch => obtain ⟨_, u', _, hR⟩ := hq; exact absurd hR (hR1 _ _ _)
  | outgrown => obtain ⟨u', hR⟩ := hq; exact absurd hR (hR2 _ _)
  | exit id => exact hq.elim
  | goto l => exact hq.elim
/-- what a deferred closure does that finds no panic: it returns, and leaves a block of its own behind -/
def IdleR (w : World) (o : Obj) (e : Ending) (u' : FrameMode) (w' : World) : Prop := e = .returned (.tuple #[]) ∧ u' = .returning ∧ w' = w.alloc o
section
variable {P : Program} {X : Cx} {e : Env} {l : List (Nat × Obj)} {H : Hp} {D : List Deferred} {k : List It}
theorem T.defer {all : Array Oper} {rest : List Oper} {x : Operand} {g : _root_.Go.Fn} {cap : Array Value} {ty : TypeId} {pos : String} {after : Array Edge} (hro : X.ro = none) (hx : evE e x = some (.func g #[] cap))
    (h : T P X e l H ({ target := .fn g cap, args := #[] } :: D) (.ops all rest :: k)) : T P X e l H D (.ops all (⟨none, .defer ⟨.value x, #[], #[]⟩, ty, pos, after, none⟩ :: rest) :: k) := T.mk fun a w ha hw => by
  refine wpList_cons ((Wanted.none (e := e)).get X D a ha) ?_
  have hs : ((⟨none, .defer ⟨.value x, #[], #[]⟩, ty, pos, after, none⟩ : Oper).semAt X.ro a.eval).run P w = .ok (.defer { target := .fn g cap, args := #[] }) w := by
    rw [hro, Oper.semAt_none]
    simp [execOp, resolve, ha.eval hx, Deferred.ofValue]
  rw [hs, Oper.uponIn_defer]
  refine T.get h _ w ⟨by simpa [Act.put] using ha.size, fun i v hi => by simpa [Act.put] using ha.get i v hi, ?_⟩ hw
  simp [Act.put, ha.dfr]
theorem Lv.idle {fn : Func} {R : Ending → World → Prop} {g : FuncId} [hE : Ent P g] {cap : Array Value} (o : Obj) (hc : ∀ w, CallsDIn Fence.wide 0 P g cap .returning w (IdleR w o)) (h : ∀ b, Lv P X fn R e ((b, o) :: l) H D) :
    Lv P X fn R e l H ({ target := .fn (.func g) cap, args := #[] } :: D) := Lv.mk fun D0 a w ha hw => by
  refine ⟨by simp, .inr ⟨fun hd => by simp [Fence.wide] at hd, .func g, cap, g, cap, rfl, ?_, fun _ _ => trivial, ?_⟩⟩
  · have := hE.h cap w
    simpa [invoke] using this
  · refine CallsDIn.mono (hc w) ?_
    rintro en u' w' ⟨rfl, rfl, rfl⟩
    exact (h w.heap.size).get D0 a _ ha (hw.alloc o)
end

end Go.Proofs.YtecogbhbkccblaaGreatDoor
namespace Go.Proofs.YtecogbhbkccblaaGreatDoor
open Go.RowKit


set_option maxRecDepth 100000 in
theorem tag_idle (p q r : Value) (w : World) : CallsDIn Fence.wide 0 Tryz.prog 189 #[p, q, r] .returning w (IdleR w (.cells #[.int .i64 0, .int .i64 0] 265 (0, 0))) := by
  have hta : ∀ w, (Instr.typeAssert .nilIface 20 265 true).run Tryz.prog w = .ok (.tuple #[.agg #[.int .i64 0, .int .i64 0], .bool false]) w := fun w => by
    have hz : (Tryz.prog.info? 265).map (·.zero) = some (some (.agg #[.int .i64 0, .int .i64 0])) := by kernel_rfl
    obtain ⟨j, hj, hjz⟩ := Option.map_eq_some_iff.1 hz
    simp [Instr.typeAssert, run_underlying Tryz.underlying265, zeroValue, typeInfo, hj, hjz]
  refine callsDIn_S (fun _ _ _ h => by cases h.1) (fun _ _ h => by cases h.1) Tryz.func189 rfl fun c₀ cs hu => ?_
  apply wpS_seq
  apply wpS_region
  simp [wpOpsS, go_sem, recoverD, hu, Tryz.ntmps189, Exit.thenS, hta]
  apply wpS_seq
  apply wpS_region
  simp [wpOpsS, go_sem, Exit.thenS]
  refine wpS_cond (t := false) (by simp [Act.eval, Array.replicate]) ?_
  simp only [Bool.false_eq_true, if_false]
  refine wpS_of_wp (wp_skip ?_)
  cases c₀
  simp_all [bodyPostS, results, Tryz.results189, IdleR]

end Go.Proofs.YtecogbhbkccblaaGreatDoor
namespace Go.Proofs.YtecogbhbkccblaaGreatDoor
open Go.RowKit


theorem RV.cell3 {P : Program} {e : Env} {l : List (Nat × Obj)} {H : Hp} {fn : Func} {p q r : Tmp} {t u x : TypeId} {v1 v2 v3 : Value} (h : fn.results = #[.cell p t, .cell q u, .cell r x]) (hv : CV P e l H p t v1) (hv2 : CV P e l H q u v2) (hv3 : CV P e l H r x v3) : RV P fn e l H (.tuple #[v1, v2, v3]) := RV.mk fun X D a w ha hw => by
  unfold CV at hv hv2 hv3
  obtain ⟨a1, g1, h1⟩ := hv
  obtain ⟨a2, g2, h2⟩ := hv2
  obtain ⟨a3, g3, h3⟩ := hv3
  have h1 := h1 X w hw
  have h2 := h2 X w hw
  have h3 := h3 X w hw
  simp [results, h, ha.get _ _ g1, ha.get _ _ g2, ha.get _ _ g3, asAddr, h1, h2, h3]
theorem parseTag_fn (s nm : ByteArray) (cl : Bool) (n : Nat) (Q : Value → Hp → Prop) (H : Hp) (ht : ∀ b, FnW Tryz.prog 190 #[.pointer (some ⟨b, 0, none⟩)] H [scB b s 0] (fun u H' l' => ∃ ad m cap, u = tgV cl nm (.slice ad m cap) ∧ Q (.slice ad m cap) H' ∧ l' = [scB b s n])) :
    Fn Tryz.prog 134 #[.string s] H (fun u H' => ∃ kv, u = .tuple #[tgV cl nm kv, .int .i64 0, .int .i64 0] ∧ Q kv H') := by
  refine Fn.of_T (vs := [.string s]) Tryz.func134 rfl rfl fun w => ?_; refine zs3 ?_; refine sy fun b2 => ?_; refine sy fun b3 => ?_; refine sy fun b4 => ?_; refine zs1 ?_; refine sv (PV.makeFunc rfl) ?_; refine T.defer rfl rfl ?_; refine J4 ?_; refine yq39 ?_; refine sy fun b5 => ?_; refine yq2 ?_; refine zs1 ?_; refine T.callW Wanted.none rfl rfl (ht b5) zq1 ?_
  rintro _ H' l' hle ⟨ad, m, cap, rfl, hq, rfl⟩
  refine yq2 ?_; refine yq1 ?_; refine yq1 ?_; refine so ?_
  refine T.retF (Lv.idle _ (tag_idle _ _ _) fun b => Lv.fin (RV.cell3 rfl (by exact CV.agg rfl zq0 zX) (by exact CV.one rfl zq0 rfl) (by exact CV.one rfl zq0 rfl)) ⟨_, rfl, hq⟩)

end Go.Proofs.YtecogbhbkccblaaGreatDoor
namespace Go.Proofs.YtecogbhbkccblaaGreatDoor
open Go.RowKit


abbrev ln1 : ByteArray := ⟨#[60, 116, 101, 120, 116, 32, 105, 100, 61, 34, 116, 34, 62]⟩
abbrev ln2 : ByteArray := ⟨#[60, 115, 62]⟩
abbrev ln3 : ByteArray := ⟨#[97]⟩
abbrev ln4 : ByteArray := ⟨#[60, 47, 115, 62]⟩
abbrev ln5 : ByteArray := ⟨#[98]⟩
abbrev ln6 : ByteArray := ⟨#[60, 47, 116, 101, 120, 116, 62]⟩
theorem nm1 : NmAt ln1 1 5 := ⟨by decide, by decide, by decide, ⟨_, rfl, by decide⟩, fun j h1 h2 => by
  rcases (by omega : j = 1 ∨ j = 2 ∨ j = 3 ∨ j = 4) with rfl | rfl | rfl | rfl <;> exact ⟨_, rfl, by decide⟩, ⟨_, rfl, by decide⟩⟩
theorem nm1k : NmAt ln1 6 8 := ⟨by decide, by decide, by decide, ⟨_, rfl, by decide⟩, fun j h1 h2 => by
  rcases (by omega : j = 6 ∨ j = 7) with rfl | rfl <;> exact ⟨_, rfl, by decide⟩, ⟨_, rfl, by decide⟩⟩
theorem nm2 : NmAt ln2 1 2 := ⟨by decide, by decide, by decide, ⟨_, rfl, by decide⟩, fun j h1 h2 => by
  rcases (by omega : j = 1) with rfl <;> exact ⟨_, rfl, by decide⟩, ⟨_, rfl, by decide⟩⟩
theorem nm4 : NmAt ln4 2 3 := ⟨by decide, by decide, by decide, ⟨_, rfl, by decide⟩, fun j h1 h2 => by
  rcases (by omega : j = 2) with rfl <;> exact ⟨_, rfl, by decide⟩, ⟨_, rfl, by decide⟩⟩
theorem nm6 : NmAt ln6 2 6 := ⟨by decide, by decide, by decide, ⟨_, rfl, by decide⟩, fun j h1 h2 => by
  rcases (by omega : j = 2 ∨ j = 3 ∨ j = 4 ∨ j = 5) with rfl | rfl | rfl | rfl <;> exact ⟨_, rfl, by decide⟩, ⟨_, rfl, by decide⟩⟩
theorem vv_t : vvE ⟨#[116]⟩ = 0 := by decide +kernel
theorem vv_a : vvE ⟨#[97]⟩ = 0 := by decide +kernel
theorem vv_b : vvE ⟨#[98]⟩ = 0 := by decide +kernel
theorem ex1 : ByteArray.extract ln1 10 11 = ⟨#[116]⟩ := by decide +kernel
theorem vl1 : VlAt ln1 10 11 := ⟨by decide, fun j h1 h2 => by
  obtain rfl : j = 10 := by omega
  exact ⟨_, rfl, by decide, by decide, by decide⟩, rfl, fun j c h => by
  rw [ex1] at h
  match j, h with
  | 0, h => cases h; decide
  | j + 1, h => simp at h, by rw [ex1]; exact vv_t⟩
abbrev bText : ByteArray := ⟨#[116, 101, 120, 116]⟩
abbrev bId : ByteArray := ⟨#[105, 100]⟩
abbrev bS : ByteArray := ⟨#[115]⟩
abbrev bT : ByteArray := ⟨#[116]⟩
theorem pt1 (H : Hp) : Fn Tryz.prog 134 #[.string ln1] H (fun u H' => ∃ kv, u = .tuple #[tgV false bText kv, .int .i64 0, .int .i64 0] ∧ SlR H' 2 kv 1 [.string bId, .string bT]) := by
  refine parseTag_fn ln1 bText false 13 (fun kv H' => SlR H' 2 kv 1 [.string bId, .string bT]) H fun b => ?_
  have h := tag_key b 5 8 11 ln1 105 H rfl 116 rfl zD nm1 rfl rfl zD nm1k rfl rfl vl1 rfl rfl zD
  rw [show ByteArray.extract ln1 1 5 = bText by decide +kernel, show ByteArray.extract ln1 (5 + 1) 8 = bId by decide +kernel, show ByteArray.extract ln1 (8 + 2) 11 = bT by decide +kernel] at h
  refine FnW.mono h ?_
  rintro u H' l' ⟨kv, rfl, hkv, rfl⟩
  obtain ⟨ad, cap, rfl⟩ := hkv.len
  exact ⟨ad, 1, cap, rfl, hkv, rfl⟩
theorem pt2 (H : Hp) : Fn Tryz.prog 134 #[.string ln2] H (fun u H' => ∃ kv, u = .tuple #[tgV false bS kv, .int .i64 0, .int .i64 0] ∧ kv = .slice none 0 0) := by
  refine parseTag_fn ln2 bS false 3 (fun kv _ => kv = .slice none 0 0) H fun b => ?_
  have h := tag_open b 2 ln2 115 H rfl rfl zD nm2 rfl rfl zD
  rw [show ByteArray.extract ln2 1 2 = bS by decide +kernel] at h
  refine FnW.mono h ?_
  rintro u H' l' ⟨rfl, rfl, rfl⟩
  exact ⟨none, 0, 0, rfl, rfl, rfl⟩
theorem pt4 (H : Hp) : Fn Tryz.prog 134 #[.string ln4] H (fun u H' => ∃ kv, u = .tuple #[tgV true bS kv, .int .i64 0, .int .i64 0] ∧ kv = .slice none 0 0) := by
  refine parseTag_fn ln4 bS true 4 (fun kv _ => kv = .slice none 0 0) H fun b => ?_
  have h := tag_close b 3 ln4 H rfl rfl nm4 rfl rfl zD
  rw [show ByteArray.extract ln4 2 3 = bS by decide +kernel] at h
  refine FnW.mono h ?_
  rintro u H' l' ⟨rfl, rfl, rfl⟩
  exact ⟨none, 0, 0, rfl, rfl, rfl⟩
theorem pt6 (H : Hp) : Fn Tryz.prog 134 #[.string ln6] H (fun u H' => ∃ kv, u = .tuple #[tgV true bText kv, .int .i64 0, .int .i64 0] ∧ kv = .slice none 0 0) := by
  refine parseTag_fn ln6 bText true 7 (fun kv _ => kv = .slice none 0 0) H fun b => ?_
  have h := tag_close b 6 ln6 H rfl rfl nm6 rfl rfl zD
  rw [show ByteArray.extract ln6 2 6 = bText by decide +kernel] at h
  refine FnW.mono h ?_
  rintro u H' l' ⟨rfl, rfl, rfl⟩
  exact ⟨none, 0, 0, rfl, rfl, rfl⟩

end Go.Proofs.YtecogbhbkccblaaGreatDoor
