/- lines: comparing strings and matches. -/
import Derived.Lib.Bytealg
import Derived.Test.YtlklcjpmfjmenaaGreatG4
namespace Go.Proofs.YtlklcjpmfjmenaaGreat
open Go.RowKit


def cmpS (a b : ByteArray) : Int := Lib.compareBytes a.data.toList b.data.toList
theorem PV.callExt {P : Program} {e : Env} {l : List (Nat × Obj)} {H : Hp} {f : FuncId} {xs : List Operand} {vs : List Value} {v : Value} {ts : Array TypeId} {dst : Option Tmp} {ty : TypeId} {pos : String} {after : Array Edge} {gd : Option (Nat × Bool)} (hv : evL e xs = some vs) (h : ∀ w, (callFunc f vs.toArray).run P w = .ok (.value v) w) :
    PV P e l H ⟨dst, .call ⟨.value (.func f), xs.toArray, ts⟩, ty, pos, after, gd⟩ v := PV.mk fun X D a w ha hw => by
  have := evL_map ha xs vs hv
  have hE' := h w
  simp [execOp, resolve, Act.eval, Deferred.ofValue, invoke, List.map_toArray, this, hE']
theorem cmpExt (s t : ByteArray) (w : World) : (callFunc 74 [Value.string s, .string t].toArray).run Tryz.prog w = .ok (.value (.int .i64 (cmpS s t))) w := by
  rw [run_callFunc_extern Tryz.func74 (by kernel_rfl) (by kernel_rfl) (by kernel_rfl) (e := Extern.BytealgCompare.compare) (by kernel_rfl), Lib.run_compareString]
  rfl
theorem cmpString_fn (a b : ByteArray) (H : Hp) : Fn Tryz.prog 55 #[.string a, .string b] H (fun u _ => u = .int .i64 (cmpS a b)) := by
  refine Fn.of_T (vs := [.string a, .string b]) Tryz.func55 rfl rfl fun w => ?_
  refine sq ?_
  refine sr ?_
  refine sa ?_
  refine so ?_
  refine sq ?_
  refine sr ?_
  refine sm ?_
  refine sm ?_
  refine sv (PV.callExt rfl (cmpExt a b)) ?_
  refine sa ?_
  refine so ?_
  exact T.retF (Lv.fin (RV.tmp rfl rfl) rfl)
theorem strCompare_fn (a b : ByteArray) (H : Hp) : Fn Tryz.prog 23 #[.string a, .string b] H (fun u _ => u = .int .i64 (cmpS a b)) := by
  have h := cmpString_fn a b H
  refine Fn.of_T (vs := [.string a, .string b]) Tryz.func23 rfl rfl fun w => ?_
  refine sq ?_
  refine sr ?_
  refine sa ?_
  refine so ?_
  refine sq ?_
  refine sr ?_
  refine sm ?_
  refine sm ?_
  refine T.callV Wanted.none rfl rfl (h) ?_
  refine sa ?_
  refine so ?_
  exact T.retF (Lv.fin (RV.tmp rfl rfl) rfl)
set_option maxHeartbeats 2000000 in
theorem cmpInts_fn (a b : List Int) (va vb : Value) (H : Hp) (ha : InL H va a) (hb : InL H vb b) (hla : a.length ≤ 9223372036854775807) (hlb : b.length ≤ 9223372036854775807) : Fn Tryz.prog 58 #[va, vb] H (fun u _ => u = .int .i64 (cmpL a b)) := by
  obtain ⟨ada, capa, rfl⟩ := ha.len
  obtain ⟨adb, capb, rfl⟩ := hb.len
  refine Fn.of_T (vs := [.slice ada a.length capa, .slice adb b.length capb]) Tryz.func58 rfl rfl fun w => ?_
  refine sq ?_
  refine sr ?_
  refine sa ?_
  refine so ?_
  refine sq ?_
  refine sq ?_
  refine sr ?_
  refine sm ?_
  refine sv (PV.lenSl rfl) ?_
  refine sm ?_
  refine so ?_
  refine T.block ?_
  refine T.loop (γ := Nat) (fun i => i ≤ a.length ∧ i ≤ b.length ∧ cmpL (a.drop i) (b.drop i) = cmpL a b)
    (fun i => [(11, .int .i64 (i : Int)), (10, .int .i64 (a.length : Int)), (9, .slice ada a.length capa), (0, .slice ada a.length capa), (1, .slice adb b.length capb)])
    (fun _ => []) (fun _ => H) (fun i => a.length - i) 0 ⟨by simp, by simp, rfl⟩ zq8 zq4 rfl ?_
  rintro i ⟨i1, i2, i3⟩
  by_cases hi : i < a.length
  · obtain ⟨x, hx⟩ : ∃ x, a[i]? = some x := ⟨_, List.getElem?_eq_getElem hi⟩
    obtain ⟨b1, off1, rfl, hsub⟩ := ha.intAt hx
    by_cases hj : i < b.length
    · obtain ⟨y, hy⟩ : ∃ x, b[i]? = some x := ⟨_, List.getElem?_eq_getElem hj⟩
      obtain ⟨b2, off2, rfl, hsub2⟩ := hb.intAt hy
      rw [cmpL_drop hx hy] at i3
      have hc := cmpCompare_fn x y H
      unfold cmpI at hc
      by_cases h1 : x < y
      · rw [if_pos h1] at i3 hc
        refine sq ?_
        refine sr ?_
        refine sv (PV.lss rfl rfl) ?_
        refine so ?_
        refine sq ?_
        refine sc rfl (by omega) ?_
        refine T.skip ?_
        refine sq ?_
        refine T.block ?_
        refine sq ?_
        refine sr ?_
        refine sm ?_
        refine sv (PV.indexAddr rfl rfl (by omega)) ?_
        refine sv (PV.loadSub0 rfl (by assumption)) ?_
        refine sa ?_
        refine sa ?_
        refine so ?_
        refine sq ?_
        refine sq ?_
        refine sr ?_
        refine sm ?_
        refine sm ?_
        refine sv (PV.lenSl rfl) ?_
        refine sv (PV.geq rfl rfl) ?_
        refine so ?_
        refine sd rfl (by omega) ?_
        refine T.skip ?_
        refine sq ?_
        refine sr ?_
        refine sm ?_
        refine sm ?_
        refine sv (PV.indexAddr rfl rfl (by omega)) ?_
        refine sv (PV.loadSub0 rfl (by assumption)) ?_
        refine sa ?_
        refine so ?_
        refine sq ?_
        refine sr ?_
        refine sm ?_
        refine sm ?_
        refine T.callV Wanted.none rfl rfl (hc) ?_
        refine sa ?_
        refine so ?_
        refine sq ?_
        refine sr ?_
        refine sm ?_
        refine sv (PV.neq rfl rfl) ?_
        refine so ?_
        refine T.condT rfl rfl ?_
        refine sq ?_
        refine sr ?_
        refine sm ?_
        refine sa ?_
        refine so ?_
        exact T.retF (Lv.fin (RV.tmp rfl rfl) (by rw [← i3]))
      · rw [if_neg h1] at i3 hc
        by_cases h2 : y < x
        · rw [if_pos h2] at i3 hc
          refine sq ?_
          refine sr ?_
          refine sv (PV.lss rfl rfl) ?_
          refine so ?_
          refine sq ?_
          refine sc rfl (by omega) ?_
          refine T.skip ?_
          refine sq ?_
          refine T.block ?_
          refine sq ?_
          refine sr ?_
          refine sm ?_
          refine sv (PV.indexAddr rfl rfl (by omega)) ?_
          refine sv (PV.loadSub0 rfl (by assumption)) ?_
          refine sa ?_
          refine sa ?_
          refine so ?_
          refine sq ?_
          refine sq ?_
          refine sr ?_
          refine sm ?_
          refine sm ?_
          refine sv (PV.lenSl rfl) ?_
          refine sv (PV.geq rfl rfl) ?_
          refine so ?_
          refine sd rfl (by omega) ?_
          refine T.skip ?_
          refine sq ?_
          refine sr ?_
          refine sm ?_
          refine sm ?_
          refine sv (PV.indexAddr rfl rfl (by omega)) ?_
          refine sv (PV.loadSub0 rfl (by assumption)) ?_
          refine sa ?_
          refine so ?_
          refine sq ?_
          refine sr ?_
          refine sm ?_
          refine sm ?_
          refine T.callV Wanted.none rfl rfl (hc) ?_
          refine sa ?_
          refine so ?_
          refine sq ?_
          refine sr ?_
          refine sm ?_
          refine sv (PV.neq rfl rfl) ?_
          refine so ?_
          refine T.condT rfl rfl ?_
          refine sq ?_
          refine sr ?_
          refine sm ?_
          refine sa ?_
          refine so ?_
          exact T.retF (Lv.fin (RV.tmp rfl rfl) (by rw [← i3]))
        · rw [if_neg h2] at i3 hc
          refine sq ?_
          refine sr ?_
          refine sv (PV.lss rfl rfl) ?_
          refine so ?_
          refine sq ?_
          refine sc rfl (by omega) ?_
          refine T.skip ?_
          refine sq ?_
          refine T.block ?_
          refine sq ?_
          refine sr ?_
          refine sm ?_
          refine sv (PV.indexAddr rfl rfl (by omega)) ?_
          refine sv (PV.loadSub0 rfl (by assumption)) ?_
          refine sa ?_
          refine sa ?_
          refine so ?_
          refine sq ?_
          refine sq ?_
          refine sr ?_
          refine sm ?_
          refine sm ?_
          refine sv (PV.lenSl rfl) ?_
          refine sv (PV.geq rfl rfl) ?_
          refine so ?_
          refine sd rfl (by omega) ?_
          refine T.skip ?_
          refine sq ?_
          refine sr ?_
          refine sm ?_
          refine sm ?_
          refine sv (PV.indexAddr rfl rfl (by omega)) ?_
          refine sv (PV.loadSub0 rfl (by assumption)) ?_
          refine sa ?_
          refine so ?_
          refine sq ?_
          refine sr ?_
          refine sm ?_
          refine sm ?_
          refine T.callV Wanted.none rfl rfl (hc) ?_
          refine sa ?_
          refine so ?_
          refine sq ?_
          refine sr ?_
          refine sm ?_
          refine sv (PV.neq rfl rfl) ?_
          refine so ?_
          refine T.condF rfl rfl ?_
          refine T.skip ?_
          refine T.blkEnd ?_
          refine sr ?_
          refine sv (PV.add rfl rfl (by omega)) ?_
          refine sm ?_
          refine so ?_
          exact T.next (i + 1) ⟨by omega, by omega, i3⟩ (by omega) zq8 zq4 rfl
    · rw [List.drop_of_length_le (by omega : b.length ≤ i), cmpL_nil2 (by rw [List.length_drop]; omega)] at i3
      refine sq ?_
      refine sr ?_
      refine sv (PV.lss rfl rfl) ?_
      refine so ?_
      refine sq ?_
      refine sc rfl (by omega) ?_
      refine T.skip ?_
      refine sq ?_
      refine T.block ?_
      refine sq ?_
      refine sr ?_
      refine sm ?_
      refine sv (PV.indexAddr rfl rfl (by omega)) ?_
      refine sv (PV.loadSub0 rfl (by assumption)) ?_
      refine sa ?_
      refine sa ?_
      refine so ?_
      refine sq ?_
      refine sq ?_
      refine sr ?_
      refine sm ?_
      refine sm ?_
      refine sv (PV.lenSl rfl) ?_
      refine sv (PV.geq rfl rfl) ?_
      refine so ?_
      refine sc rfl (by omega) ?_
      refine sq ?_
      refine sr ?_
      refine sa ?_
      refine so ?_
      exact T.retF (Lv.fin (RV.tmp rfl rfl) (by rw [← i3]))
  · rw [List.drop_of_length_le (by omega : a.length ≤ i), cmpL_nil, List.length_drop] at i3
    by_cases hj : a.length < b.length
    · rw [if_pos (by omega)] at i3
      refine sq ?_
      refine sr ?_
      refine sv (PV.lss rfl rfl) ?_
      refine so ?_
      refine sq ?_
      refine sd rfl (by omega) ?_
      refine T.exit rfl ?_
      refine sq ?_
      refine sq ?_
      refine sr ?_
      refine sm ?_
      refine sv (PV.lenSl rfl) ?_
      refine sm ?_
      refine sv (PV.lenSl rfl) ?_
      refine sv (PV.lss rfl rfl) ?_
      refine so ?_
      refine sc rfl (by omega) ?_
      refine sq ?_
      refine sr ?_
      refine sa ?_
      refine so ?_
      exact T.retF (Lv.fin (RV.tmp rfl rfl) (by rw [← i3]))
    · rw [if_neg (by omega)] at i3
      refine sq ?_
      refine sr ?_
      refine sv (PV.lss rfl rfl) ?_
      refine so ?_
      refine sq ?_
      refine sd rfl (by omega) ?_
      refine T.exit rfl ?_
      refine sq ?_
      refine sq ?_
      refine sr ?_
      refine sm ?_
      refine sv (PV.lenSl rfl) ?_
      refine sm ?_
      refine sv (PV.lenSl rfl) ?_
      refine sv (PV.lss rfl rfl) ?_
      refine so ?_
      refine sd rfl (by omega) ?_
      refine T.skip ?_
      refine sq ?_
      refine sr ?_
      refine sa ?_
      refine so ?_
      exact T.retF (Lv.fin (RV.tmp rfl rfl) (by rw [← i3]))
theorem or_key (a b : Mt) : orI [cmpI a.b b.b, cmpI a.e b.e, cmpL a.ls b.ls] = cmpL (keyM a) (keyM b) := by
  unfold keyM
  rw [cmpL, cmpL]
  unfold orI orI orI orI cmpI
  by_cases h1 : a.b < b.b
  · rw [if_pos h1, if_pos h1]; simp
  · rw [if_neg h1, if_neg h1]
    by_cases h2 : b.b < a.b
    · rw [if_pos h2, if_pos h2]; simp
    · rw [if_neg h2, if_neg h2]
      by_cases h3 : a.e < b.e
      · rw [if_pos h3, if_pos h3]; simp
      · rw [if_neg h3, if_neg h3]
        by_cases h4 : b.e < a.e
        · rw [if_pos h4, if_pos h4]; simp
        · rw [if_neg h4, if_neg h4]; simp only [ne_eq, not_true_eq_false, if_false]; split <;> simp_all
set_option maxHeartbeats 2000000 in
theorem matchCompare_fn (a b : Mt) (H : Hp) (ha : LabOk H a) (hb : LabOk H b) : Fn Tryz.prog 24 #[mtV a, mtV b] H (fun u _ => u = .int .i64 (cmpL (keyM a) (keyM b))) := by
  refine Fn.of_T (vs := [mtV a, mtV b]) Tryz.func24 rfl rfl fun w => ?_
  unfold mtV
  have hcl := cmpInts_fn a.ls b.ls a.v b.v H ha.1 hb.1 (by have := ha.2; omega) (by have := hb.2; omega)
  refine sq ?_
  refine sr ?_
  (refine T.box Wanted.none rfl rfl zq15 ?_; intro b2)
  (refine T.box Wanted.none rfl rfl zq15 ?_; intro b3)
  refine sa ?_
  refine so ?_
  refine sq ?_
  refine T.regionT 15 (by kernel_rfl) ?_
  refine TQ.pv (PV.fieldAddr rfl) Wanted.none rfl rfl ?_
  refine TQ.pv (PV.load1 rfl zq0 rfl) Wanted.none rfl rfl ?_
  refine TQ.pv (PV.fieldAddr rfl) Wanted.none rfl rfl ?_
  refine TQ.pv (PV.load1 rfl zq0 rfl) Wanted.none rfl rfl ?_
  refine TQ.callV Wanted.none rfl rfl (cmpCompare_fn _ _ H) ?_
  refine TQ.pv (PV.fieldAddr rfl) Wanted.none rfl rfl ?_
  refine TQ.pv (PV.load1 rfl zq0 rfl) Wanted.none rfl rfl ?_
  refine TQ.pv (PV.fieldAddr rfl) Wanted.none rfl rfl ?_
  refine TQ.pv (PV.load1 rfl zq0 rfl) Wanted.none rfl rfl ?_
  refine TQ.callV Wanted.none rfl rfl (cmpCompare_fn _ _ H) ?_
  refine TQ.pv (PV.fieldAddr rfl) Wanted.none rfl rfl ?_
  refine TQ.pv (PV.load1 rfl zq0 rfl) Wanted.none rfl rfl ?_
  refine TQ.pv (PV.fieldAddr rfl) Wanted.none rfl rfl ?_
  refine TQ.pv (PV.load1 rfl zq0 rfl) Wanted.none rfl rfl ?_
  refine TQ.callV Wanted.none rfl rfl (hcl) ?_
  refine TQ.nil ?_
  (refine T.buildSlice Wanted.none rfl rfl zq11 (by exact rfl) (by exact rfl) ?_; intro b20)
  refine T.freezeLit ?_
  intro H1 hle1 hH1
  have hsl : SlR H1 1 _ _ (intsV [cmpI a.b b.b, cmpI a.e b.e, cmpL a.ls b.ls]) := SlR.lit (n := 3) hH1 rfl
  refine T.callV Wanted.none rfl rfl (cmpOr_fn [cmpI a.b b.b, cmpI a.e b.e, cmpL a.ls b.ls] _ H1 hsl (Nat.le_of_ble_eq_true rfl)) ?_
  refine sa ?_
  refine so ?_
  exact T.retF (Lv.fin (RV.tmp rfl rfl) (by rw [or_key]))

end Go.Proofs.YtlklcjpmfjmenaaGreat
