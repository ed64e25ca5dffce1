/- lines: Hash. -/
import Derived.Lib.ItoaLen
import Derived.Test.YtlklcjpmfjmenaaDoorFD1
import Derived.Test.YtlklcjpmfjmenaaDoorFK6
namespace Go.Proofs.YtlklcjpmfjmenaaDoor
open Go.RowKit

def xorI (k : IntKind) (x y : Int) : Int := k.wrap ((BitVec.ofInt k.bits x ^^^ BitVec.ofInt k.bits y).toNat : Int)
theorem PV.xorK {P : Program} {e : Env} {l : List (Nat × Obj)} {H : Hp} {dst : Option Tmp} {ty : TypeId} {pos : String} {after : Array Edge} {gd : Option (Nat × Bool)} {x y : Operand} {t t' : TypeId} {k : IntKind} {m n : Int} (hx : evE e x = some (.int k m)) (hy : evE e y = some (.int k n)) :
    PV P e l H ⟨dst, .binOp .xor t x y t', ty, pos, after, gd⟩ (.int k (xorI k m n)) := PV.mk fun X D a w ha hw => by
  simp [execOp, ha.eval hx, ha.eval hy, binOp, eqGuard, Op.intBits, xorI]
/-- one step of the hash -/
def fnvS (h : Int) (b : UInt8) : Int := IntKind.wrap .u32 (xorI .u32 h (IntKind.wrap .u32 (b.toNat : Int)) * 16777619)
def fnv (l : List UInt8) : Int := l.foldl fnvS 2166136261
def hashS (t : Rg) (m : Mt) (seed : Int) : ByteArray := itoaB seed ++ ⟨#[47]⟩ ++ t.ty ++ ⟨#[47]⟩ ++ itoaB (m.b - t.b) ++ ⟨#[47]⟩ ++ itoaB (m.e - m.b)
def hashO (c : Cp) (m : Mt) (seed : Int) : Int := match fitO c m with
  | none => 0
  | some t => fnv (hashS t m seed).data.toList
theorem itoaB_size (n : Int) (hn : -9223372036854775808 ≤ n ∧ n ≤ 9223372036854775807) : (itoaB n).size ≤ 21 := by
  have h := Lib.itoa_length_le n hn.1 hn.2
  have h2 : (itoaB n).size = (Lib.itoa n).length := by unfold itoaB; show (Lib.itoa n).toArray.size = _; simp
  omega
set_option maxHeartbeats 2000000 in
theorem hash_fn (c : Cp) (m : Mt) (seed : Int) (H : Hp) (hc : CpL H c) (hw : CpW c) (hm : LabOk H m) (hl : m.ls.length ≤ 1000) (hT : PowT H) (hs : -9223372036854775808 ≤ seed ∧ seed ≤ 9223372036854775807) (htx : ∀ t ∈ c.tx, t.ty.size ≤ 1000000) :
    Fn Tryd.prog 9 #[cpV c, mtV m, .int .i64 seed] H (fun u _ => u = .int .u32 (hashO c m seed)) := by
  obtain ⟨al, cl, hmv⟩ := hm.1.len
  have hlt := hc.lt
  have hfi := fits_in c m H hc hw hm hl
  unfold cpV mtV at hfi
  unfold cpV mtV
  rw [hmv] at hfi ⊢
  refine Fn.of_T (vs := [.agg #[c.va, c.vt, c.vx, c.vr, c.vn, c.vh, c.vs], .agg #[.int .i64 m.b, .int .i64 m.e, .slice al m.ls.length cl], .int .i64 seed]) Tryd.func9 rfl rfl fun w => ?_
  cases hf : fitO c m with
  | none =>
    rw [hf] at hfi
    refine sq ?_
    refine sr ?_
    (refine T.box Wanted.none rfl rfl zq15 ?_; intro b3)
    (refine T.box Wanted.none rfl rfl zq15 ?_; intro b4)
    refine sa ?_
    refine so ?_
    refine sq ?_
    refine sr ?_
    refine sv (PV.loadAll rfl zq0 (by exact rfl)) ?_
    refine sv (PV.loadAll rfl zq0 (by exact rfl)) ?_
    refine T.callV Wanted.none rfl rfl (hfi) ?_
    refine sm ?_
    refine sv (PV.extract rfl rfl) ?_
    refine sv (PV.extract rfl rfl) ?_
    refine sy fun b7 => ?_
    refine T.storeA Wanted.none rfl rfl zq8 (by exact rfl) zq14 zq13 ?_
    refine sa ?_
    refine so ?_
    refine sq ?_
    refine sq ?_
    refine sr ?_
    refine sm ?_
    refine sv (PV.not rfl) ?_
    refine so ?_
    refine T.condT rfl rfl ?_
    refine sq ?_
    refine sr ?_
    refine sa ?_
    refine so ?_
    exact T.retF (Lv.fin (RV.tmp rfl rfl) (by unfold hashO; rw [hf]))
  | some t =>
    rw [hf] at hfi
    obtain ⟨f1, f2, f3, f4, f5, f6, f7⟩ := fitO_some hw hf
    have q := htx t f1
    obtain ⟨ak, ck, hkv⟩ := (hc.x.2 t f1).1.len
    rw [Option.getD_some] at hfi
    unfold rgV at hfi
    rw [hkv] at hfi
    change Fn _ _ _ _ (fun u _ => u = .tuple #[.agg #[.string t.ty, .int .i64 t.b, .int .i64 t.e, .slice ak t.ks.length ck], .bool true]) at hfi
    have z0 := itoaB_size seed hs
    have zb := itoaB_size (m.b - t.b) (by omega)
    have ze := itoaB_size (m.e - m.b) (by omega)
    have z1 : (⟨#[47]⟩ : ByteArray).size = 1 := rfl
    have z2 : (itoaB seed ++ ⟨#[47]⟩).size = (itoaB seed).size + 1 := by rw [ByteArray.size_append]; rfl
    have z3 : (itoaB seed ++ ⟨#[47]⟩ ++ t.ty).size = (itoaB seed).size + 1 + t.ty.size := by rw [ByteArray.size_append, z2]
    have z4 : (itoaB seed ++ ⟨#[47]⟩ ++ t.ty ++ ⟨#[47]⟩).size = (itoaB seed).size + 1 + t.ty.size + 1 := by rw [ByteArray.size_append, z3]; rfl
    have z5 : (itoaB seed ++ ⟨#[47]⟩ ++ t.ty ++ ⟨#[47]⟩ ++ itoaB (m.b - t.b)).size = (itoaB seed).size + 1 + t.ty.size + 1 + (itoaB (m.b - t.b)).size := by rw [ByteArray.size_append, z4]
    have z6 : (itoaB seed ++ ⟨#[47]⟩ ++ t.ty ++ ⟨#[47]⟩ ++ itoaB (m.b - t.b) ++ ⟨#[47]⟩).size = (itoaB seed).size + 1 + t.ty.size + 1 + (itoaB (m.b - t.b)).size + 1 := by rw [ByteArray.size_append, z5]; rfl
    refine sq ?_
    refine sr ?_
    (refine T.box Wanted.none rfl rfl zq15 ?_; intro b3)
    (refine T.box Wanted.none rfl rfl zq15 ?_; intro b4)
    refine sa ?_
    refine so ?_
    refine sq ?_
    refine sr ?_
    refine sv (PV.loadAll rfl zq0 (by exact rfl)) ?_
    refine sv (PV.loadAll rfl zq0 (by exact rfl)) ?_
    refine T.callV Wanted.none rfl rfl (hfi) ?_
    refine sm ?_
    refine sv (PV.extract rfl rfl) ?_
    refine sv (PV.extract rfl rfl) ?_
    refine sy fun b7 => ?_
    refine T.storeA Wanted.none rfl rfl zq8 (by exact rfl) zq14 zq13 ?_
    refine sa ?_
    refine so ?_
    refine sq ?_
    refine sq ?_
    refine sr ?_
    refine sm ?_
    refine sv (PV.not rfl) ?_
    refine so ?_
    refine T.condF rfl rfl ?_
    refine T.skip ?_
    refine sq ?_
    refine sr ?_
    refine sa ?_
    refine so ?_
    (repeat refine sq ?_)
    refine T.regionO [(b7, .cells #[.string t.ty, .int .i64 t.b, .int .i64 t.e, .slice ak t.ks.length ck] 38 (0, 0)), (b4, .cells #[.int .i64 m.b, .int .i64 m.e, .slice al m.ls.length cl] 40 (0, 0))] (by kernel_rfl) ?_
    refine TO.take 0 rfl (by kernel_rfl) (by kernel_rfl) (by kernel_rfl) (PV.move rfl) Wanted.none rfl rfl ?_
    refine TO.take 3 rfl (by kernel_rfl) (by kernel_rfl) (by kernel_rfl) (PV.fieldAddr rfl) Wanted.none rfl rfl ?_
    refine TO.take 4 rfl (by kernel_rfl) (by kernel_rfl) (by kernel_rfl) (PV.load1 rfl zq0 rfl) Wanted.none rfl rfl ?_
    refine TO.take 7 rfl (by kernel_rfl) (by kernel_rfl) (by kernel_rfl) (PV.fieldAddr rfl) Wanted.none rfl rfl ?_
    refine TO.take 8 rfl (by kernel_rfl) (by kernel_rfl) (by kernel_rfl) (PV.load1 rfl zq0 rfl) Wanted.none rfl rfl ?_
    refine TO.take 9 rfl (by kernel_rfl) (by kernel_rfl) (by kernel_rfl) (PV.fieldAddr rfl) Wanted.none rfl rfl ?_
    refine TO.take 10 rfl (by kernel_rfl) (by kernel_rfl) (by kernel_rfl) (PV.load1 rfl zq0 rfl) Wanted.none rfl rfl ?_
    refine TO.take 11 rfl (by kernel_rfl) (by kernel_rfl) (by kernel_rfl) (PV.sub rfl rfl (by omega)) Wanted.none rfl rfl ?_
    refine TO.take 15 rfl (by kernel_rfl) (by kernel_rfl) (by kernel_rfl) (PV.fieldAddr rfl) Wanted.none rfl rfl ?_
    refine TO.take 16 rfl (by kernel_rfl) (by kernel_rfl) (by kernel_rfl) (PV.load1 rfl zq0 rfl) Wanted.none rfl rfl ?_
    refine TO.take 17 rfl (by kernel_rfl) (by kernel_rfl) (by kernel_rfl) (PV.fieldAddr rfl) Wanted.none rfl rfl ?_
    refine TO.take 18 rfl (by kernel_rfl) (by kernel_rfl) (by kernel_rfl) (PV.load1 rfl zq0 rfl) Wanted.none rfl rfl ?_
    refine TO.take 19 rfl (by kernel_rfl) (by kernel_rfl) (by kernel_rfl) (PV.sub rfl rfl (by omega)) Wanted.none rfl rfl ?_
    refine TO.take 24 rfl (by kernel_rfl) (by kernel_rfl) (by kernel_rfl) (PV.move rfl) Wanted.none rfl rfl ?_
    refine TO.step 1 rfl (by kernel_rfl) zq4 zq17 ?_
    (refine T.callX Wanted.none rfl rfl (itoa_fn _ _ hT (by omega)) ?_; rintro _ rfl)
    refine so ?_
    refine TO.back ?_
    refine TO.take 2 rfl (by kernel_rfl) (by kernel_rfl) (by kernel_rfl) (PV.sadd rfl rfl (by omega)) Wanted.none rfl rfl ?_
    refine TO.take 5 rfl (by kernel_rfl) (by kernel_rfl) (by kernel_rfl) (PV.sadd rfl rfl (by omega)) Wanted.none rfl rfl ?_
    refine TO.take 6 rfl (by kernel_rfl) (by kernel_rfl) (by kernel_rfl) (PV.sadd rfl rfl (by omega)) Wanted.none rfl rfl ?_
    refine TO.step 12 rfl (by kernel_rfl) zq4 zq17 ?_
    (refine T.callX Wanted.none rfl rfl (itoa_fn _ _ hT (by omega)) ?_; rintro _ rfl)
    refine so ?_
    refine TO.back ?_
    refine TO.take 13 rfl (by kernel_rfl) (by kernel_rfl) (by kernel_rfl) (PV.sadd rfl rfl (by omega)) Wanted.none rfl rfl ?_
    refine TO.take 14 rfl (by kernel_rfl) (by kernel_rfl) (by kernel_rfl) (PV.sadd rfl rfl (by omega)) Wanted.none rfl rfl ?_
    refine TO.step 20 rfl (by kernel_rfl) zq4 zq17 ?_
    (refine T.callX Wanted.none rfl rfl (itoa_fn _ _ hT (by omega)) ?_; rintro _ rfl)
    refine so ?_
    refine TO.back ?_
    refine TO.take 21 rfl (by kernel_rfl) (by kernel_rfl) (by kernel_rfl) (PV.sadd rfl rfl (by omega)) Wanted.none rfl rfl ?_
    refine TO.step 22 rfl (by kernel_rfl) zq4 zq17 ?_
    refine T.strBytes Wanted.none rfl rfl ?_
    intro b42 cap42 H1 hle1 hcap1 hsl1
    have hS0 : hashS t m seed = itoaB seed ++ ⟨#[47]⟩ ++ t.ty ++ ⟨#[47]⟩ ++ itoaB (m.b - t.b) ++ ⟨#[47]⟩ ++ itoaB (m.e - m.b) := rfl
    have hO : hashO c m seed = fnv (hashS t m seed).data.toList := by unfold hashO; rw [hf]
    rw [hO, hS0]
    have hSs : (itoaB seed ++ ⟨#[47]⟩ ++ t.ty ++ ⟨#[47]⟩ ++ itoaB (m.b - t.b) ++ ⟨#[47]⟩ ++ itoaB (m.e - m.b)).size ≤ 1000100 := by rw [ByteArray.size_append, z6]; omega
    clear hcap1 z6 z5 z4 z3 z2 hS0 hO
    generalize itoaB seed ++ ⟨#[47]⟩ ++ t.ty ++ ⟨#[47]⟩ ++ itoaB (m.b - t.b) ++ ⟨#[47]⟩ ++ itoaB (m.e - m.b) = S at hsl1 hSs ⊢
    refine so ?_
    refine TO.back ?_
    refine TO.take 23 rfl (by kernel_rfl) (by kernel_rfl) (by kernel_rfl) (PV.lenSl rfl) Wanted.none rfl rfl ?_
    refine TO.done (by kernel_rfl) zq4 zq17 ?_
    refine T.block ?_
    refine T.loopK [(43, Value.int IntKind.i64 (↑S.size : Int)), (42, Value.slice (some { block := b42, off := 0 }) S.size cap42)] zq8 (γ := Nat) (fun i => i ≤ S.size) (fun i => [(44, .int .i64 (i : Int)), (9, .int .u32 (fnv (S.data.toList.take i)))]) (fun _ => []) (fun _ => H1) (fun i => S.size - i) 0 (Nat.zero_le _) zq8 (by repeat (first | exact Sel.refl _ | exact Sel.nil | (refine Sel.cons zq1 ?_) | (refine Sel.app zq1 ?_) | exact Sel.one zq1)) rfl ?_
    intro i hi0
    by_cases hi : i < S.size
    · obtain ⟨ch, hch⟩ := byteAt hi
      have hsub : SubC H1 b42 (0 + i * 1) [.int .u8 (ch.toNat : Int)] := by
        have hel := bytes_elem hch
        obtain ⟨b', o', cap', hve, hs⟩ := hsl1.elem hi hel
        injection hve with e1 e2 e3
        injection e1 with e1
        injection e1 with e1 e4
        subst e1 e4
        exact hs
      have hst : IntKind.wrap .u32 (xorI .u32 (fnv (S.data.toList.take i)) (IntKind.wrap .u32 (ch.toNat : Int)) * 16777619) = fnv (S.data.toList.take (i + 1)) := by
        unfold fnv
        rw [List.take_add_one, hch, List.foldl_append]; rfl
      refine sq ?_
      refine sr ?_
      refine sv (PV.lss rfl rfl) ?_
      refine so ?_
      refine sq ?_
      refine sc rfl (by omega) ?_
      refine T.skip ?_
      refine sq ?_
      refine T.block ?_
      refine sq ?_
      refine sr ?_
      refine sv (PV.indexAddr rfl rfl (by omega)) ?_
      refine sv (PV.loadSub0 rfl (by assumption)) ?_
      refine sa ?_
      refine so ?_
      refine sr ?_
      refine sm ?_
      refine sm ?_
      refine sv (PV.convK rfl) ?_
      refine sv (PV.xorK rfl rfl) ?_
      refine sv (PV.mulK rfl rfl) ?_
      rw [hst]
      refine sa ?_
      refine so ?_
      refine T.blkEnd ?_
      refine sr ?_
      refine sv (PV.add rfl rfl (by omega)) ?_
      refine sm ?_
      refine so ?_
      exact T.nextP (i + 1) (by omega) (by omega) zq8 (by repeat (first | exact Sel.refl _ | exact Sel.nil | (refine Sel.cons zq1 ?_) | (refine Sel.app zq1 ?_) | exact Sel.one zq1)) rfl
    · have hsz : S.data.toList.length = S.size := Array.length_toList
      have hl0 : S.data.toList.take i = S.data.toList := List.take_of_length_le (by omega)
      rw [hl0]
      refine sq ?_
      refine sr ?_
      refine sv (PV.lss rfl rfl) ?_
      refine so ?_
      refine sq ?_
      refine sd rfl (by omega) ?_
      refine T.exit rfl ?_
      refine sq ?_
      refine sr ?_
      refine sm ?_
      refine sa ?_
      refine so ?_
      exact T.retF (Lv.fin (RV.tmp rfl rfl) rfl)
end Go.Proofs.YtlklcjpmfjmenaaDoor
