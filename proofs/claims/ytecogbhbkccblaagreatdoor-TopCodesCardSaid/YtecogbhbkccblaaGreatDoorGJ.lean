/- the example: the lines of the file.
   the example: regions in order; the first line of a text. -/
import Derived.Test.YtecogbhbkccblaaGreatDoorGI
set_option maxRecDepth 4000
set_option maxHeartbeats 40000000
set_option linter.all false
namespace Go.Proofs.YtecogbhbkccblaaGreatDoor
open Go.RowKit


theorem litePre_fn (s t : ByteArray) (r : Bool) (ht : t.size = 1) (hs : 1 ≤ s.size) (hx : decide (s.extract 0 1 = t) = r) (H : Hp) : Fn Tryz.prog 185 #[.string s, .string t] H (fun u _ => u = .bool r) := by
  refine Fn.of_T (vs := [.string s, .string t]) Tryz.func185 rfl rfl fun w => ?_; refine J12 ?_; refine T.setT (d := 10) rfl zO ?_; refine J3 ?_; refine gv (PV.sliceStrH rfl rfl zO) ?_; refine gm ?_; refine gv (PV.seql rfl rfl) ?_; refine J3 ?_
  refine T.retF (Lv.fin (RV.tmp rfl rfl) ?_)
  rw [ht]
  exact congrArg Value.bool hx
theorem hasPre_fn (s t : ByteArray) (r : Bool) (ht : t.size = 1) (hs : 1 ≤ s.size) (hx : decide (s.extract 0 1 = t) = r) (H : Hp) : Fn Tryz.prog 132 #[.string s, .string t] H (fun u _ => u = .bool r) := by
  have h := litePre_fn s t r ht hs hx H
  refine Fn.of_T (vs := [.string s, .string t]) Tryz.func132 rfl rfl fun w => ?_; refine J8 ?_; refine T.callV Wanted.none rfl rfl (h) ?_; refine J2 ?_
  exact T.retF (Lv.fin (RV.tmp rfl rfl) rfl)
section
variable {P : Program} {X : Cx} {e : Env} {l : List (Nat × Obj)} {H : Hp} {D : List Deferred} {k : List It}
theorem T.callWF {all : Array Oper} {rest : List Oper} {ty : TypeId} {pos : String} {after : Array Edge} {gd : Option (Nat × Bool)} {d : Nat} {f : FuncId} [hE : Ent P f] {x : Operand} {xs : List Operand} {ts : Array TypeId} {vs cap : List Value} {l0 r : List (Nat × Obj)} {R : Value → Hp → List (Nat × Obj) → Prop} (hw : Wanted e all ⟨some d, .call ⟨.value x, xs.toArray, ts⟩, ty, pos, after, gd⟩) (hN : Nat.blt d X.N = true)
    (hx : evE e x = some (.func (.func f) #[] cap.toArray)) (hv : evL e xs = some vs) (hf : FnW P f (vs ++ cap).toArray H l0 R) (hpk : Pick l l0 r)
    (h : ∀ v H' l', H.le H' → R v H' l' → T P X ((d, v) :: e) (l' ++ r) H' D (.ops all rest :: k)) :
    T P X e l H D (.ops all (⟨some d, .call ⟨.value x, xs.toArray, ts⟩, ty, pos, after, gd⟩ :: rest) :: k) :=
  T.enterW (d := d) hw rfl hN (fun a w ha => by
    have := evL_map ha xs vs hv
    have hE' := hE.h (vs ++ cap).toArray w
    simp [execOp, resolve, ha.eval hx, Deferred.ofValue, invoke, List.map_toArray, this]
    simpa using hE') hpk hf h
end
theorem PV.kinds {e : Env} {l : List (Nat × Obj)} {H : Hp} {dst : Option Tmp} {ty : TypeId} {pos : String} {after : Array Edge} {gd : Option (Nat × Bool)} :
    PV Tryz.prog e l H ⟨dst, .build 221 #[(0, .func 135), (1, .func 136), (2, .func 137), (3, .func 138)], ty, pos, after, gd⟩
      (.agg #[.func (.func 135) #[] #[], .func (.func 136) #[] #[], .func (.func 137) #[] #[], .func (.func 138) #[] #[]]) := PV.mk fun X D a w _ _ => by
  have h : (Instr.build 221 #[(0, .func (.func 135) #[] #[]), (1, .func (.func 136) #[] #[]), (2, .func (.func 137) #[] #[]), (3, .func (.func 138) #[] #[])]).run Tryz.prog w = .ok (.agg #[.func (.func 135) #[] #[], .func (.func 136) #[] #[], .func (.func 137) #[] #[], .func (.func 138) #[] #[]]) w := by kernel_rfl
  simp [execOp, Act.eval, h]
theorem PV.indexArr {e : Env} {l : List (Nat × Obj)} {H : Hp} {dst : Option Tmp} {ty : TypeId} {pos : String} {after : Array Edge} {gd : Option (Nat × Bool)} {x y : Operand} {b o : Nat} {i : Int} (hx : evE e x = some (.pointer (some ⟨b, o, none⟩))) (hy : evE e y = some (.int .i64 i)) (hi : 0 ≤ i ∧ i < 4) :
    PV Tryz.prog e l H ⟨dst, .indexAddr 221 x y, ty, pos, after, gd⟩ (.pointer (some ⟨b, o + i.toNat, none⟩)) := PV.mk fun X D a w ha hw => by
  have h1 : ∀ w, (sizeOf 219).run Tryz.prog w = .ok 1 w := fun _ => by kernel_rfl
  have : (⟨b, o, none⟩ : Addr).add i.toNat = ⟨b, o + i.toNat, none⟩ := by unfold Addr.add; split <;> simp_all
  simp [execOp, ha.eval hx, ha.eval hy, Instr.indexAt, Instr.sureAddr, asIntOf, run_underlying Tryz.underlying221, h1, hi, this]
theorem line1_fn (b : Nat) (ava : Option Addr) (n cva : Nat) (H : Hp) :
    FnW Tryz.prog 84 #[.pointer (some ⟨b, 0, none⟩), .string ln1] H [rdB b (.slice ava n cva) nilS nilS nilS nilS false]
      (fun u H' l' => u = .agg #[.int .i64 0, .int .i64 0] ∧ ∃ ax cx lvx, Vec 112 4 (.slice ax 1 cx) lvx 1 [.string bT, .int .i64 0, .int .i64 (-1), nilS] ∧ l' = lvx ++ [rdB b (.slice ava n cva) nilS (.slice ax 1 cx) nilS nilS true]) := by
  have hpr := hasPre_fn ln1 ⟨#[60]⟩ true rfl zD (by decide +kernel) H
  have hpt := pt1 H
  have htx : decide (bText = ⟨#[116, 101, 120, 116]⟩) = true := decide_eq_true rfl
  refine FnW.of_T (vs := [.pointer (some ⟨b, 0, none⟩), .string ln1]) Tryz.func84 rfl rfl fun w => ?_; refine zs3 ?_; refine sy fun b4 => ?_; refine J5 ?_; refine T.callV Wanted.none rfl rfl (hpr) ?_; refine J7 ?_; refine T.call Wanted.none rfl rfl hpt ?_
  rintro _ H1 hle ⟨kv, rfl, hkv⟩
  obtain ⟨adk, capk, rfl⟩ := hkv.len
  refine J4 ?_; refine sy fun b5 => ?_; refine yq2 ?_; refine J13 ?_; refine T.pv PV.kinds Wanted.none rfl rfl ?_; refine sy fun b8 => ?_; refine yq2 ?_; refine J24 ?_
  refine J2 ?_
  (repeat refine sq ?_)
  have hbt := beginText_fn b ava n cva (.slice adk 1 capk) H1 hkv
  refine T.regionS [(b8, .cells #[.func (.func 135) #[] #[], .func (.func 136) #[] #[], .func (.func 137) #[] #[], .func (.func 138) #[] #[]] 221 (0, 0)), (b5, .cells #[.bool false, .string bText, .slice adk 1 capk] 216 (0, 0))] 7 zK ?_; refine yq93 ?_; refine yq61 ?_; refine yq65 ?_
  refine TS.ways [5] zK rfl zq20 ⟨⟨_, rfl, ?_⟩, trivial⟩
  (refine T.callWF (f := 137) (cap := []) Wanted.none rfl rfl rfl (by exact hbt) zq1 ?_; rintro _ H42 l42 hle42 ⟨rfl, rfl, ax42, cx42, lvx42, hvx42, rfl⟩); refine yq117 ?_
  refine yq91 ?_
  refine yq2 ?_; refine yq11 ?_
  exact T.retW (Lv.finW (lvx42 ++ [rdB b (.slice ava n cva) nilS (.slice ax42 1 cx42) nilS nilS true]) zq4 (RV.cell rfl (by exact CV.agg rfl zq0 zX)) ⟨rfl, ax42, cx42, lvx42, hvx42, rfl⟩)
theorem line2_fn (b : Nat) (ava ax : Option Addr) (n cva nx cx : Nat) (H : Hp) :
    FnW Tryz.prog 84 #[.pointer (some ⟨b, 0, none⟩), .string ln2] H ([rdB b (.slice ava n cva) nilS (.slice ax nx cx) nilS nilS true])
      (fun u H' l' => u = .agg #[.int .i64 0, .int .i64 0] ∧ ∃ ao co lvo, Vec 110 4 (.slice ao 1 co) lvo 1 [.string bS, .int .i64 0, .int .i64 0, nilS] ∧ l' = lvo ++ [rdB b (.slice ava n cva) nilS (.slice ax nx cx) nilS (.slice ao 1 co) true]) := by
  have hpr := hasPre_fn ln2 ⟨#[60]⟩ true rfl zD (by decide +kernel) H
  have hpt := pt2 H
  have htx : decide (bS = ⟨#[116, 101, 120, 116]⟩) = false := by decide +kernel
  refine FnW.of_T (vs := [.pointer (some ⟨b, 0, none⟩), .string ln2]) Tryz.func84 rfl rfl fun w => ?_; refine zs3 ?_; refine sy fun b4 => ?_; refine J5 ?_; refine T.callV Wanted.none rfl rfl (hpr) ?_; refine J7 ?_; refine T.call Wanted.none rfl rfl hpt ?_
  rintro _ H1 hle ⟨kv, rfl, rfl⟩
  refine J4 ?_; refine sy fun b5 => ?_; refine yq2 ?_; refine J13 ?_; refine T.pv PV.kinds Wanted.none rfl rfl ?_; refine sy fun b8 => ?_; refine yq2 ?_; refine J22 ?_
  (repeat refine sq ?_)
  have hbt := beginRegion_fn b ava ax n cva nx cx H1
  refine T.regionS [(b8, .cells #[.func (.func 135) #[] #[], .func (.func 136) #[] #[], .func (.func 137) #[] #[], .func (.func 138) #[] #[]] 221 (0, 0)), (b5, .cells #[.bool false, .string bS, .slice none 0 0] 216 (0, 0))] 7 zK ?_; refine yq93 ?_; refine yq61 ?_; refine yq65 ?_
  refine TS.ways [5] zK rfl zq20 ⟨⟨_, rfl, ?_⟩, trivial⟩
  (refine T.callWF (f := 135) (cap := []) Wanted.none rfl rfl rfl (by exact hbt) zq1 ?_; rintro _ H42 l42 hle42 ⟨rfl, rfl, ao42, co42, lvo42, hvo42, rfl⟩); refine yq117 ?_
  refine yq91 ?_
  refine yq2 ?_; refine yq11 ?_
  exact T.retW (Lv.finW (lvo42 ++ [rdB b (.slice ava n cva) nilS (.slice ax nx cx) nilS (.slice ao42 1 co42) true]) zq4 (RV.cell rfl (by exact CV.agg rfl zq0 zX)) ⟨rfl, ao42, co42, lvo42, hvo42, rfl⟩)
theorem line4_fn (b : Nat) (ava ax at1 ao : Option Addr) (n cva nx cx ct co : Nat) (lvo : List (Nat × Obj)) (H : Hp) (hvo : Vec 110 4 (.slice ao 1 co) lvo 1 [.string bS, .int .i64 0, .int .i64 0, nilS]) :
    FnW Tryz.prog 84 #[.pointer (some ⟨b, 0, none⟩), .string ln4] H (lvo ++ [rdB b (.slice ava n cva) (.slice at1 1 ct) (.slice ax nx cx) nilS (.slice ao 1 co) true])
      (fun u H' l' => u = .agg #[.int .i64 0, .int .i64 0] ∧ ∃ ar cr lvr ao2 co2, Vec 110 4 (.slice ar 1 cr) lvr 1 [.string bS, .int .i64 0, .int .i64 1, nilS] ∧ l' = lvr ++ [rdB b (.slice ava n cva) (.slice at1 1 ct) (.slice ax nx cx) (.slice ar 1 cr) (.slice ao2 0 co2) true]) := by
  have hpr := hasPre_fn ln4 ⟨#[60]⟩ true rfl zD (by decide +kernel) H
  have hpt := pt4 H
  have htx : decide (bS = ⟨#[116, 101, 120, 116]⟩) = false := by decide +kernel
  refine FnW.of_T (vs := [.pointer (some ⟨b, 0, none⟩), .string ln4]) Tryz.func84 rfl rfl fun w => ?_; refine zs3 ?_; refine sy fun b4 => ?_; refine J5 ?_; refine T.callV Wanted.none rfl rfl (hpr) ?_; refine J7 ?_; refine T.call Wanted.none rfl rfl hpt ?_
  rintro _ H1 hle ⟨kv, rfl, rfl⟩
  refine J4 ?_; refine sy fun b5 => ?_; refine yq2 ?_; refine J13 ?_; refine T.pv PV.kinds Wanted.none rfl rfl ?_; refine sy fun b8 => ?_; refine yq2 ?_; refine J24 ?_
  refine J2 ?_
  (repeat refine sq ?_)
  have hbt := endRegion_fn b ava ax at1 ao n cva nx cx ct co lvo H1 hvo
  refine T.regionS [(b8, .cells #[.func (.func 135) #[] #[], .func (.func 136) #[] #[], .func (.func 137) #[] #[], .func (.func 138) #[] #[]] 221 (0, 0)), (b5, .cells #[.bool true, .string bS, .slice none 0 0] 216 (0, 0))] 7 zK ?_; refine yq93 ?_; refine yq61 ?_; refine yq65 ?_
  refine TS.ways [5] zK rfl zq20 ⟨⟨_, rfl, ?_⟩, trivial⟩
  (refine T.callWF (f := 136) (cap := []) Wanted.none rfl rfl rfl (by exact hbt) zq1 ?_; rintro _ H42 l42 hle42 ⟨rfl, rfl, ar42, cr42, lvr42, ao242, co242, hvr42, rfl⟩); refine yq117 ?_
  refine yq91 ?_
  refine yq2 ?_; refine yq11 ?_
  exact T.retW (Lv.finW (lvr42 ++ [rdB b (.slice ava n cva) (.slice at1 1 ct) (.slice ax nx cx) (.slice ar42 1 cr42) (.slice ao242 0 co242) true]) zq4 (RV.cell rfl (by exact CV.agg rfl zq0 zX)) ⟨rfl, ar42, cr42, lvr42, ao242, co242, hvr42, rfl⟩)
theorem line6_fn (b : Nat) (ava ax at1 ao ar : Option Addr) (n cva cx ct co nr cr : Nat) (lvx : List (Nat × Obj)) (H : Hp) (hvx : Vec 112 4 (.slice ax 1 cx) lvx 1 [.string bT, .int .i64 0, .int .i64 (-1), nilS]) :
    FnW Tryz.prog 84 #[.pointer (some ⟨b, 0, none⟩), .string ln6] H (lvx ++ [rdB b (.slice ava n cva) (.slice at1 2 ct) (.slice ax 1 cx) (.slice ar nr cr) (.slice ao 0 co) true])
      (fun u H' l' => u = .agg #[.int .i64 0, .int .i64 0] ∧ ∃ lvx2, Vec 112 4 (.slice ax 1 cx) lvx2 1 [.string bT, .int .i64 0, .int .i64 2, nilS] ∧ l' = lvx2 ++ [rdB b (.slice ava n cva) (.slice at1 2 ct) (.slice ax 1 cx) (.slice ar nr cr) (.slice ao 0 co) false]) := by
  have hpr := hasPre_fn ln6 ⟨#[60]⟩ true rfl zD (by decide +kernel) H
  have hpt := pt6 H
  have htx : decide (bText = ⟨#[116, 101, 120, 116]⟩) = true := by decide +kernel
  refine FnW.of_T (vs := [.pointer (some ⟨b, 0, none⟩), .string ln6]) Tryz.func84 rfl rfl fun w => ?_; refine zs3 ?_; refine sy fun b4 => ?_; refine J5 ?_; refine T.callV Wanted.none rfl rfl (hpr) ?_; refine J7 ?_; refine T.call Wanted.none rfl rfl hpt ?_
  rintro _ H1 hle ⟨kv, rfl, rfl⟩
  refine J4 ?_; refine sy fun b5 => ?_; refine yq2 ?_; refine J13 ?_; refine T.pv PV.kinds Wanted.none rfl rfl ?_; refine sy fun b8 => ?_; refine yq2 ?_; refine J24 ?_
  refine J6 ?_
  (repeat refine sq ?_)
  have hbt := endText_fn b ava ax at1 ao ar n cva cx ct co nr cr lvx nilS H1 hvx
  refine T.regionS [(b8, .cells #[.func (.func 135) #[] #[], .func (.func 136) #[] #[], .func (.func 137) #[] #[], .func (.func 138) #[] #[]] 221 (0, 0)), (b5, .cells #[.bool true, .string bText, .slice none 0 0] 216 (0, 0))] 7 zK ?_; refine yq93 ?_; refine yq61 ?_; refine yq65 ?_
  refine TS.ways [5] zK rfl zq20 ⟨⟨_, rfl, ?_⟩, trivial⟩
  (refine T.callWF (f := 138) (cap := []) Wanted.none rfl rfl rfl (by exact hbt) zq1 ?_; rintro _ H42 l42 hle42 ⟨rfl, rfl, lvx242, hvx242, rfl⟩); refine yq117 ?_
  refine yq91 ?_
  refine yq2 ?_; refine yq11 ?_
  exact T.retW (Lv.finW (lvx242 ++ [rdB b (.slice ava n cva) (.slice at1 2 ct) (.slice ax 1 cx) (.slice ar nr cr) (.slice ao 0 co) false]) zq4 (RV.cell rfl (by exact CV.agg rfl zq0 zX)) ⟨rfl, lvx242, hvx242, rfl⟩)
theorem lineT_fn (b : Nat) (at1 ax ar ao : Option Addr) (ba oa cva k ct nx cx nr cr no co : Nat) (lvt : List (Nat × Obj)) (xs : List Value) (s : ByteArray) (H : Hp) (hk : k ≤ 10) (hva : SlR H 2 (.slice (some ⟨ba, oa, none⟩) 1 cva) 1 [.string bWord, .bool false]) (hvt : Vec 28 1 (.slice at1 k ct) lvt k xs) (hs : TokOk s) (hx : decide (s.extract 0 1 = ⟨#[60]⟩) = false) :
    FnW Tryz.prog 84 #[.pointer (some ⟨b, 0, none⟩), .string s] H (lvt ++ [rdB b (.slice (some ⟨ba, oa, none⟩) 1 cva) (.slice at1 k ct) (.slice ax nx cx) (.slice ar nr cr) (.slice ao no co) true])
      (fun u H' l' => u = .agg #[.int .i64 0, .int .i64 0] ∧ ∃ at2 ct2 lvt2 v, Vec 28 1 (.slice at2 (k + 1) ct2) lvt2 (k + 1) (xs ++ [v]) ∧ StL H' v [s] ∧ l' = lvt2 ++ [rdB b (.slice (some ⟨ba, oa, none⟩) 1 cva) (.slice at2 (k + 1) ct2) (.slice ax nx cx) (.slice ar nr cr) (.slice ao no co) true]) := by
  have hpr := hasPre_fn s ⟨#[60]⟩ false rfl hs.sz.1 hx H
  have htk := token_fn b at1 ax ar ao ba oa cva k ct nx cx nr cr no co lvt xs s H hk hva hvt hs
  refine FnW.of_T (vs := [.pointer (some ⟨b, 0, none⟩), .string s]) Tryz.func84 rfl rfl fun w => ?_; refine zs3 ?_; refine sy fun b4 => ?_; refine J5 ?_; refine T.callV Wanted.none rfl rfl (hpr) ?_; refine J7 ?_; refine T.callW Wanted.none rfl rfl htk zq1 ?_
  rintro _ H1 l1 hle ⟨rfl, at2, ct2, lvt2, v, hv, hvs, rfl⟩
  refine yq2 ?_; refine so ?_
  exact T.retW (Lv.finW (lvt2 ++ [rdB b (.slice (some ⟨ba, oa, none⟩) 1 cva) (.slice at2 (k + 1) ct2) (.slice ax nx cx) (.slice ar nr cr) (.slice ao no co) true]) zq4 (RV.cell rfl (by exact CV.agg rfl zq0 zX)) ⟨rfl, at2, ct2, lvt2, v, hv, hvs, rfl⟩)

end Go.Proofs.YtecogbhbkccblaaGreatDoor
namespace Go.Proofs.YtecogbhbkccblaaGreatDoor
open Go.RowKit


theorem copyPairs_nil (H : Hp) : Fn Tryz.prog 194 #[nilS] H (fun u _ => ∃ ad cap, u = .slice ad 0 cap) := by
  refine Fn.of_T (vs := [nilS]) Tryz.func194 rfl rfl fun w => ?_; refine J7 ?_; (refine T.appendP (lv := []) Wanted.none rfl rfl rfl (Vec.nil 170 2) (m := 0) (ys := []) (SlR.src SlR.empty) (by intro v hv; cases hv) zO zq1 ?_; intro v4 lv4 hv4 _; obtain ⟨ad4, cap4, rfl⟩ := hv4.val); refine J2 ?_
  exact T.retF (Lv.fin (RV.tmp rfl rfl) ⟨_, _, rfl⟩)
theorem copyRegion_fn (H : Hp) : Fn Tryz.prog 140 #[.agg #[.string bS, .int .i64 0, .int .i64 1, nilS], .int .i64 0] H (fun u _ => ∃ ad cap, u = .agg #[.string bS, .int .i64 0, .int .i64 1, .slice ad 0 cap]) := by
  have hcp := copyPairs_nil H
  refine Fn.of_T (vs := [.agg #[.string bS, .int .i64 0, .int .i64 1, nilS], .int .i64 0]) Tryz.func140 rfl rfl fun w => ?_; refine zs3 ?_; (refine T.box Wanted.none rfl rfl zq15 ?_; intro b2); refine sy fun b4 => ?_; refine so ?_
  (repeat refine sq ?_)
  refine T.regionS [(b2, .cells #[.string bS, .int .i64 0, .int .i64 1, nilS] 110 (0, 0))] 14 zK ?_; refine TS.take 0 rfl zK zK zK zK (PV.fieldAddr rfl) Wanted.none rfl rfl ?_; refine TS.take 1 rfl zK zK zK zK (PV.load1 rfl zq0 rfl) Wanted.none rfl rfl ?_; refine TS.take 2 rfl zK zK zK zK (PV.fieldAddr rfl) Wanted.none rfl rfl ?_; refine TS.take 3 rfl zK zK zK zK (PV.load1 rfl zq0 rfl) Wanted.none rfl rfl ?_; refine TS.take 4 rfl zK zK zK zK (PV.move rfl) Wanted.none rfl rfl ?_; refine TS.take 5 rfl zK zK zK zK (PV.add rfl rfl zO) Wanted.none rfl rfl ?_; refine TS.take 6 rfl zK zK zK zK (PV.fieldAddr rfl) Wanted.none rfl rfl ?_; refine TS.take 7 rfl zK zK zK zK (PV.load1 rfl zq0 rfl) Wanted.none rfl rfl ?_; refine TS.take 8 rfl zK zK zK zK (PV.move rfl) Wanted.none rfl rfl ?_; refine TS.take 9 rfl zK zK zK zK (PV.add rfl rfl zO) Wanted.none rfl rfl ?_; refine TS.take 10 rfl zK zK zK zK (PV.fieldAddr rfl) Wanted.none rfl rfl ?_; refine TS.take 11 rfl zK zK zK zK (PV.load1 rfl zq0 rfl) Wanted.none rfl rfl ?_
  refine TS.ways [12] zK rfl zq20 ⟨⟨_, rfl, ?_⟩, trivial⟩
  (refine T.callX Wanted.none rfl rfl hcp ?_; rintro _ ⟨ad, cap, rfl⟩); refine yq4 ?_; refine TS.take 13 rfl zK zK zK zK (PV.build rfl zq12) Wanted.none rfl rfl ?_
  refine TS.ways [14] zK rfl zq20 ⟨⟨_, rfl, ?_⟩, trivial⟩
  refine yq2 ?_; refine yq11 ?_
  exact T.retF (Lv.fin (RV.cell rfl (by exact CV.agg rfl zq0 zX)) ⟨ad, cap, rfl⟩)
theorem sortReg_fn (v : Value) (H : Hp) (hv : SlR H 4 v 1 [.string bS, .int .i64 0, .int .i64 1, nilS]) : Fn Tryz.prog 86 #[v] H (fun u H' => ∃ ad cap, SlR H' 4 u 1 [.string bS, .int .i64 0, .int .i64 1, .slice ad 0 cap]) := by
  obtain ⟨ad, cap, rfl⟩ := hv.len
  obtain ⟨b, off, rfl, hsub⟩ := RowL.at (l := [(⟨bS, 0, 1, nilS, []⟩ : Rg)]) encRg_len hv (i := 0) rfl
  unfold encRg at hsub
  have hcr := copyRegion_fn H
  refine Fn.of_T (vs := [.slice (some ⟨b, off, none⟩) 1 cap]) Tryz.func86 rfl rfl fun w => ?_; refine J16 ?_; refine T.rounds 2 ?_; refine J12 ?_; refine yq20 ?_; refine sy fun b5 => ?_; refine yq2 ?_; refine J9 ?_; refine T.rounds 1 ?_; refine yq119 ?_; refine I2 ?_
  refine I11 ?_; refine J5 ?_; refine yq39 ?_; (refine T.buildSlice Wanted.none rfl rfl zq11 zX zX ?_; intro b31); (refine T.appendP (lv := []) Wanted.none rfl rfl rfl (Vec.nil 110 4) (Src.cells (m := 1) (ys := [.string ⟨#[]⟩, .int .i64 0, .int .i64 0, nilS]) (.own zq2) rfl rfl) (by intro v hv; simp at hv; rcases hv with rfl | rfl | rfl | rfl <;> rfl) zO zq1 ?_; intro v32 lv32 hv32 _; obtain ⟨b2, cap2, rfl⟩ := hv32.ptr zO; obtain ⟨_, r1, r2, tl, rfl, r3⟩ := hv32.row (by simp)); refine J3 ?_; refine T.regionT 7 zK ?_; refine I3 ?_; refine TQ.pv (PV.sliceL rfl rfl zO) Wanted.none rfl rfl ?_; refine I2 ?_; refine TQ.pv (PV.sliceLP rfl rfl zO) Wanted.none rfl rfl ?_; refine TQ.nil ?_; refine T.copyNone Wanted.none rfl rfl rfl ?_ ?_
  · show min _ _ = 0
    simp
  refine J5 ?_; (refine T.callX Wanted.none rfl rfl hcr ?_; rintro _ ⟨adr, capr, rfl⟩); refine sv (PV.indexAddr rfl rfl zO) ?_; refine yq2 ?_; refine J6 ?_; refine T.again ?_; refine J12 ?_
  have hvf : Vec 110 4 (.slice (some ⟨b2, 0, none⟩) (0 + 1) cap2) [(b2, .cells (.string bS :: .int .i64 0 :: .int .i64 1 :: .slice adr 0 capr :: tl).toArray 110 (0, 0))] (0 + 1) [.string bS, .int .i64 0, .int .i64 1, .slice adr 0 capr] := ⟨rfl, .inr ⟨b2, cap2, .string bS :: .int .i64 0 :: .int .i64 1 :: .slice adr 0 capr :: tl, rfl, rfl, r1, r2, by simpa using r3, rfl⟩⟩
  refine T.freezeP (lv := [(b2, .cells (.string bS :: .int .i64 0 :: .int .i64 1 :: .slice adr 0 capr :: tl).toArray 110 (0, 0))]) hvf zq1 ?_
  intro Ha hla hsa
  exact T.retF (Lv.fin (RV.tmp rfl rfl) ⟨adr, capr, hsa⟩)
theorem liteCut_fn (s t : ByteArray) (c : UInt8) (i : Nat) (ht : t = ⟨#[c]⟩) (hi : Lib.indexByte s.data.toList c = (i : Int)) (hl : i < s.size) (hs : s.size ≤ 1000) (H : Hp) :
    Fn Tryz.prog 131 #[.string s, .string t] H (fun u _ => u = .tuple #[.string (s.extract 0 i), .string (s.extract (i + 1) s.size), .bool true]) := by
  have hsz : t.size = 1 := by rw [ht]; rfl
  have hix := liteIndex_fn s t c ht H
  rw [hi] at hix
  refine Fn.of_T (vs := [.string s, .string t]) Tryz.func131 rfl rfl fun w => ?_; refine J11 ?_; refine T.callV Wanted.none rfl rfl (hix) ?_; refine J9 ?_; refine yq70 ?_; refine I2 ?_; refine TQ.pv (PV.sliceStrH rfl rfl zO) Wanted.none rfl rfl ?_; refine I5 ?_; refine TQ.pv (PV.sliceStrL rfl rfl zO) Wanted.none rfl rfl ?_; refine I4 ?_
  refine T.retF (Lv.fin (RV.tmp3 rfl rfl rfl rfl) ?_)
  rw [show ((i : Int) + (t.size : Int)).toNat = i + 1 by omega, Int.toNat_natCast]
theorem cut_fn (s t : ByteArray) (c : UInt8) (i : Nat) (ht : t = ⟨#[c]⟩) (hi : Lib.indexByte s.data.toList c = (i : Int)) (hl : i < s.size) (hs : s.size ≤ 1000) (H : Hp) :
    Fn Tryz.prog 83 #[.string s, .string t] H (fun u _ => u = .tuple #[.string (s.extract 0 i), .string (s.extract (i + 1) s.size), .bool true]) := by
  have h := liteCut_fn s t c i ht hi hl hs H
  refine Fn.of_T (vs := [.string s, .string t]) Tryz.func83 rfl rfl fun w => ?_; refine J10 ?_; refine T.callV Wanted.none rfl rfl (h) ?_; refine J7 ?_
  exact T.retF (Lv.fin (RV.tmp3 rfl rfl rfl rfl) rfl)

end Go.Proofs.YtecogbhbkccblaaGreatDoor
