/- The shelf's contracts, laid at this program (written by the kit's command).
   numbers as texts: strconv.Itoa by the shelf's contract.
   lines: Hash.
   lines: a corpus with one text more: what is shown of a match does not change.
   lines: the reference's Decimal.
   lines: the reference's Hash. -/
import Derived.Shelf.LaysM
import Derived.Test.YtlklcjpmfjmenaaGreatDoorProg
import Derived.Shelf.Strconv.Itoa3
import Derived.Lib.ItoaLen
import Derived.Test.YtlklcjpmfjmenaaGreatDoorFKB
import Derived.Test.YtlklcjpmfjmenaaGreatDoorGB
namespace Go.Proofs.YtlklcjpmfjmenaaGreatDoor
open Go.Proofs Go.Shelf

def Tryz.itoaL_ren : Go.Shelf.Ren := ⟨fun | 171 => 51 | 243 => 91 | 246 => 104 | 283 => 125 | 284 => 126 | 285 => 127 | 286 => 128 | 129 => 115 | 317 => 143 | 318 => 144 | 319 => 145 | 320 => 146 | 337 => 153 | 338 => 154 | n => n, fun | 3 => 3 | 9 => 9 | 2 => 2 | 4 => 4 | 171 => 167 | 0 => 0 | 53 => 161 | 37 => 91 | 5 => 5 | 173 => 169 | 212 => 183 | 51 => 50 | 20 => 20 | 213 => 184 | 46 => 142 | 232 => 192 | 233 => 193 | n => n, fun | 17 => 1 | 18 => 2 | 19 => 3 | n => n⟩
theorem Tryz.itoaL : Go.Proofs.LaysM.n171 Tryz.prog Tryz.itoaL_ren := {
  mixed := by kernel_rfl,
  f129 := Tryz.func115.trans (congrArg some (by kernel_rfl)),
  f171 := Tryz.func51.trans (congrArg some (by kernel_rfl)),
  f243 := Tryz.func91.trans (congrArg some (by kernel_rfl)),
  f246 := Tryz.func104.trans (congrArg some (by kernel_rfl)),
  f283 := Tryz.func125.trans (congrArg some (by kernel_rfl)),
  f284 := Tryz.func126.trans (congrArg some (by kernel_rfl)),
  f285 := Tryz.func127.trans (congrArg some (by kernel_rfl)),
  f286 := Tryz.func128.trans (congrArg some (by kernel_rfl)),
  f317 := Tryz.func143.trans (congrArg some (by kernel_rfl)),
  f318 := Tryz.func144.trans (congrArg some (by kernel_rfl)),
  f319 := Tryz.func145.trans (congrArg some (by kernel_rfl)),
  f320 := Tryz.func146.trans (congrArg some (by kernel_rfl)),
  f337 := Tryz.func153.trans (congrArg some (by kernel_rfl)),
  f338 := Tryz.func154.trans (congrArg some (by kernel_rfl)),
  t0 := Tryz.underlying0,
  a0 := Tryz.isAgg0,
  z0 := Tryz.sizeOf0,
  v0 := Tryz.zeroValue0,
  t2 := Tryz.underlying2,
  a2 := Tryz.isAgg2,
  z2 := Tryz.sizeOf2,
  v2 := Tryz.zeroValue2,
  t3 := Tryz.underlying3,
  a3 := Tryz.isAgg3,
  z3 := Tryz.sizeOf3,
  v3 := Tryz.zeroValue3,
  t4 := Tryz.underlying4,
  a4 := Tryz.isAgg4,
  z4 := Tryz.sizeOf4,
  v4 := Tryz.zeroValue4,
  t5 := Tryz.underlying5,
  a5 := Tryz.isAgg5,
  z5 := Tryz.sizeOf5,
  v5 := Tryz.zeroValue5,
  t9 := Tryz.underlying9,
  a9 := Tryz.isAgg9,
  z9 := Tryz.sizeOf9,
  v9 := Tryz.zeroValue9,
  t20 := Tryz.underlying20,
  a20 := Tryz.isAgg20,
  z20 := Tryz.sizeOf20,
  v20 := Tryz.zeroValue20,
  t37 := Tryz.underlying91,
  a37 := Tryz.isAgg91,
  z37 := Tryz.sizeOf91,
  v37 := Tryz.zeroValue91,
  t46 := Tryz.underlying142,
  a46 := Tryz.isAgg142,
  z46 := Tryz.sizeOf142,
  v46 := Tryz.zeroValue142,
  t51 := Tryz.underlying50,
  a51 := Tryz.isAgg50,
  z51 := Tryz.sizeOf50,
  v51 := Tryz.zeroValue50,
  t53 := Tryz.underlying161,
  a53 := Tryz.isAgg161,
  z53 := Tryz.sizeOf161,
  v53 := Tryz.zeroValue161,
  t171 := Tryz.underlying167,
  a171 := Tryz.isAgg167,
  z171 := Tryz.sizeOf167,
  v171 := Tryz.zeroValue167,
  t173 := Tryz.underlying169,
  a173 := Tryz.isAgg169,
  z173 := Tryz.sizeOf169,
  v173 := Tryz.zeroValue169,
  t212 := Tryz.underlying183,
  a212 := Tryz.isAgg183,
  z212 := Tryz.sizeOf183,
  v212 := Tryz.zeroValue183,
  t213 := Tryz.underlying184,
  a213 := Tryz.isAgg184,
  z213 := Tryz.sizeOf184,
  t232 := Tryz.underlying192,
  a232 := Tryz.isAgg192,
  z232 := Tryz.sizeOf192,
  v232 := Tryz.zeroValue192,
  t233 := Tryz.underlying193,
  a233 := Tryz.isAgg193,
  z233 := Tryz.sizeOf193,
  v233 := Tryz.zeroValue193,
  g17 := by kernel_rfl,
  g18 := by kernel_rfl,
  g19 := by kernel_rfl,
  i0 := by kernel_rfl,
  i2 := by kernel_rfl,
  i3 := by kernel_rfl,
  i4 := by kernel_rfl,
  i5 := by kernel_rfl,
  i9 := by kernel_rfl,
  i20 := by kernel_rfl,
  i37 := by kernel_rfl,
  i46 := by kernel_rfl,
  i51 := by kernel_rfl,
  i53 := by kernel_rfl,
  i171 := by kernel_rfl,
  i173 := by kernel_rfl,
  i212 := by kernel_rfl,
  i232 := by kernel_rfl,
  i233 := by kernel_rfl,
  m17 := by kernel_rfl,
  m18 := by kernel_rfl,
  m19 := by kernel_rfl }
end Go.Proofs.YtlklcjpmfjmenaaGreatDoor
namespace Go.Proofs.YtlklcjpmfjmenaaGreatDoor
open Go.RowKit

/-- the library's table of powers lies in the heap -/
def PowT (H : Hp) : Prop := ∃ t fz, H 1 = some (.cells (Lib.pow10Tab.map fun z => Value.int .u64 z).toArray t fz)
theorem PowT.mono {H H' : Hp} (h : PowT H) (hl : H.le H') : PowT H' := by
  obtain ⟨t, fz, h⟩ := h
  exact ⟨t, fz, hl _ _ h⟩
def itoaB (n : Int) : ByteArray := ⟨(Lib.itoa n).toArray⟩
theorem itoa_fn (n : Int) (H : Hp) (hT : PowT H) (hn : -9223372036854775808 ≤ n ∧ n ≤ 9223372036854775807) : Fn Tryz.prog 51 #[.int .i64 n] H (fun u _ => u = .string (itoaB n)) := Fn.mk fun w hw => by
  obtain ⟨t, fz, hg⟩ := hT
  have hb := hw _ _ hg
  refine callsIn_wide.2 ((Go.Proofs.Any.strconv_Itoa (ρ := Tryz.itoaL_ren) Tryz.itoaL n hn.1 hn.2 w ?_).mono ?_)
  · unfold Lib.TabIs World.var?
    rw [Option.bind_eq_some_iff]
    exact ⟨1, by kernel_rfl, by rw [hb]⟩
  · rintro e w' ⟨rfl, k, os, rfl⟩
    have hlt : ∀ b o, w.heap[b]? = some o → b < w.heap.size := fun b o h => (Array.getElem?_eq_some_iff.1 h).1
    have hh : ∀ b, b < w.heap.size → (Go.Sort.grow (w.drewN k) os).heap[b]? = w.heap[b]? := fun b h => by
      show (w.heap ++ os)[b]? = _
      exact Array.getElem?_append_left h
    refine ⟨_, H, rfl, fun _ _ => rfl, fun b o h => (hh b (hlt b o (hw b o h))).trans (hw b o h), ⟨rfl, rfl, rfl, ?_, ?_, fun b hb _ => hh b hb⟩, rfl⟩
    · show w.heap.size ≤ (w.heap ++ os).size
      simp
    · show w.drawn ≤ w.drawn + k
      omega
end Go.Proofs.YtlklcjpmfjmenaaGreatDoor
namespace Go.Proofs.YtlklcjpmfjmenaaGreatDoor
open Go.RowKit

def xorI (k : IntKind) (x y : Int) : Int := k.wrap ((BitVec.ofInt k.bits x ^^^ BitVec.ofInt k.bits y).toNat : Int)
theorem PV.xorK {P : Program} {e : Env} {l : List (Nat × Obj)} {H : Hp} {dst : Option Tmp} {ty : TypeId} {pos : String} {after : Array Edge} {gd : Option (Nat × Bool)} {x y : Operand} {t t' : TypeId} {k : IntKind} {m n : Int} (hx : evE e x = some (.int k m)) (hy : evE e y = some (.int k n)) :
    PV P e l H ⟨dst, .binOp .xor t x y t', ty, pos, after, gd⟩ (.int k (xorI k m n)) := PV.mk fun X D a w ha hw => by
  simp [execOp, ha.eval hx, ha.eval hy, binOp, eqGuard, Op.intBits, xorI]
/-- one step of the hash -/
def fnvS (h : Int) (b : UInt8) : Int := IntKind.wrap .u32 (xorI .u32 h (IntKind.wrap .u32 (b.toNat : Int)) * 16777619)
def fnv (l : List UInt8) : Int := l.foldl fnvS 2166136261
def hashS (t : Rg) (m : Mt) (seed : Int) : ByteArray := itoaB seed ++ ⟨#[47]⟩ ++ t.ty ++ ⟨#[47]⟩ ++ itoaB (m.b - t.b) ++ ⟨#[47]⟩ ++ itoaB (m.e - m.b)
def hashO (c : Cp) (m : Mt) (seed : Int) : Int := match fitO c m with
  | none => 0
  | some t => fnv (hashS t m seed).data.toList
theorem itoaB_size (n : Int) (hn : -9223372036854775808 ≤ n ∧ n ≤ 9223372036854775807) : (itoaB n).size ≤ 21 := by
  have h := Lib.itoa_length_le n hn.1 hn.2
  have h2 : (itoaB n).size = (Lib.itoa n).length := by unfold itoaB; show (Lib.itoa n).toArray.size = _; simp
  omega
set_option maxHeartbeats 2000000 in
theorem hash_fn (c : Cp) (m : Mt) (seed : Int) (H : Hp) (hc : CpL H c) (hw : CpW c) (hm : LabOk H m) (hl : m.ls.length ≤ 1000) (hT : PowT H) (hs : -9223372036854775808 ≤ seed ∧ seed ≤ 9223372036854775807) (htx : ∀ t ∈ c.tx, t.ty.size ≤ 1000000) :
    Fn Tryz.prog 16 #[cpV c, mtV m, .int .i64 seed] H (fun u _ => u = .int .u32 (hashO c m seed)) := by
  obtain ⟨al, cl, hmv⟩ := hm.1.len
  have hlt := hc.lt
  have hfi := fits_in c m H hc hw hm hl
  unfold cpV mtV at hfi
  unfold cpV mtV
  rw [hmv] at hfi ⊢
  refine Fn.of_T (vs := [.agg #[c.va, c.vt, c.vx, c.vr, c.vn, c.vh, c.vs], .agg #[.int .i64 m.b, .int .i64 m.e, .slice al m.ls.length cl], .int .i64 seed]) Tryz.func16 rfl rfl fun w => ?_
  cases hf : fitO c m with
  | none =>
    rw [hf] at hfi
    refine sq ?_
    refine sr ?_
    (refine T.box Wanted.none rfl rfl zq15 ?_; intro b3)
    (refine T.box Wanted.none rfl rfl zq15 ?_; intro b4)
    refine sa ?_
    refine so ?_
    refine sq ?_
    refine sr ?_
    refine sv (PV.loadAll rfl zq0 (by exact rfl)) ?_
    refine sv (PV.loadAll rfl zq0 (by exact rfl)) ?_
    refine T.callV Wanted.none rfl rfl (hfi) ?_
    refine sm ?_
    refine sv (PV.extract rfl rfl) ?_
    refine sv (PV.extract rfl rfl) ?_
    refine sy fun b7 => ?_
    refine T.storeA Wanted.none rfl rfl zq8 (by exact rfl) zq14 zq13 ?_
    refine sa ?_
    refine so ?_
    refine sq ?_
    refine sq ?_
    refine sr ?_
    refine sm ?_
    refine sv (PV.not rfl) ?_
    refine so ?_
    refine T.condT rfl rfl ?_
    refine sq ?_
    refine sr ?_
    refine sa ?_
    refine so ?_
    exact T.retF (Lv.fin (RV.tmp rfl rfl) (by unfold hashO; rw [hf]))
  | some t =>
    rw [hf] at hfi
    obtain ⟨f1, f2, f3, f4, f5, f6, f7⟩ := fitO_some hw hf
    have q := htx t f1
    obtain ⟨ak, ck, hkv⟩ := (hc.x.2 t f1).1.len
    rw [Option.getD_some] at hfi
    unfold rgV at hfi
    rw [hkv] at hfi
    change Fn _ _ _ _ (fun u _ => u = .tuple #[.agg #[.string t.ty, .int .i64 t.b, .int .i64 t.e, .slice ak t.ks.length ck], .bool true]) at hfi
    have z0 := itoaB_size seed hs
    have zb := itoaB_size (m.b - t.b) (by omega)
    have ze := itoaB_size (m.e - m.b) (by omega)
    have z1 : (⟨#[47]⟩ : ByteArray).size = 1 := rfl
    have z2 : (itoaB seed ++ ⟨#[47]⟩).size = (itoaB seed).size + 1 := by rw [ByteArray.size_append]; rfl
    have z3 : (itoaB seed ++ ⟨#[47]⟩ ++ t.ty).size = (itoaB seed).size + 1 + t.ty.size := by rw [ByteArray.size_append, z2]
    have z4 : (itoaB seed ++ ⟨#[47]⟩ ++ t.ty ++ ⟨#[47]⟩).size = (itoaB seed).size + 1 + t.ty.size + 1 := by rw [ByteArray.size_append, z3]; rfl
    have z5 : (itoaB seed ++ ⟨#[47]⟩ ++ t.ty ++ ⟨#[47]⟩ ++ itoaB (m.b - t.b)).size = (itoaB seed).size + 1 + t.ty.size + 1 + (itoaB (m.b - t.b)).size := by rw [ByteArray.size_append, z4]
    have z6 : (itoaB seed ++ ⟨#[47]⟩ ++ t.ty ++ ⟨#[47]⟩ ++ itoaB (m.b - t.b) ++ ⟨#[47]⟩).size = (itoaB seed).size + 1 + t.ty.size + 1 + (itoaB (m.b - t.b)).size + 1 := by rw [ByteArray.size_append, z5]; rfl
    refine sq ?_
    refine sr ?_
    (refine T.box Wanted.none rfl rfl zq15 ?_; intro b3)
    (refine T.box Wanted.none rfl rfl zq15 ?_; intro b4)
    refine sa ?_
    refine so ?_
    refine sq ?_
    refine sr ?_
    refine sv (PV.loadAll rfl zq0 (by exact rfl)) ?_
    refine sv (PV.loadAll rfl zq0 (by exact rfl)) ?_
    refine T.callV Wanted.none rfl rfl (hfi) ?_
    refine sm ?_
    refine sv (PV.extract rfl rfl) ?_
    refine sv (PV.extract rfl rfl) ?_
    refine sy fun b7 => ?_
    refine T.storeA Wanted.none rfl rfl zq8 (by exact rfl) zq14 zq13 ?_
    refine sa ?_
    refine so ?_
    refine sq ?_
    refine sq ?_
    refine sr ?_
    refine sm ?_
    refine sv (PV.not rfl) ?_
    refine so ?_
    refine T.condF rfl rfl ?_
    refine T.skip ?_
    refine sq ?_
    refine sr ?_
    refine sa ?_
    refine so ?_
    (repeat refine sq ?_)
    refine T.regionO [(b7, .cells #[.string t.ty, .int .i64 t.b, .int .i64 t.e, .slice ak t.ks.length ck] 68 (0, 0)), (b4, .cells #[.int .i64 m.b, .int .i64 m.e, .slice al m.ls.length cl] 24 (0, 0))] (by kernel_rfl) ?_
    refine TO.take 0 rfl (by kernel_rfl) (by kernel_rfl) (by kernel_rfl) (PV.move rfl) Wanted.none rfl rfl ?_
    refine TO.take 3 rfl (by kernel_rfl) (by kernel_rfl) (by kernel_rfl) (PV.fieldAddr rfl) Wanted.none rfl rfl ?_
    refine TO.take 4 rfl (by kernel_rfl) (by kernel_rfl) (by kernel_rfl) (PV.load1 rfl zq0 rfl) Wanted.none rfl rfl ?_
    refine TO.take 7 rfl (by kernel_rfl) (by kernel_rfl) (by kernel_rfl) (PV.fieldAddr rfl) Wanted.none rfl rfl ?_
    refine TO.take 8 rfl (by kernel_rfl) (by kernel_rfl) (by kernel_rfl) (PV.load1 rfl zq0 rfl) Wanted.none rfl rfl ?_
    refine TO.take 9 rfl (by kernel_rfl) (by kernel_rfl) (by kernel_rfl) (PV.fieldAddr rfl) Wanted.none rfl rfl ?_
    refine TO.take 10 rfl (by kernel_rfl) (by kernel_rfl) (by kernel_rfl) (PV.load1 rfl zq0 rfl) Wanted.none rfl rfl ?_
    refine TO.take 11 rfl (by kernel_rfl) (by kernel_rfl) (by kernel_rfl) (PV.sub rfl rfl (by omega)) Wanted.none rfl rfl ?_
    refine TO.take 15 rfl (by kernel_rfl) (by kernel_rfl) (by kernel_rfl) (PV.fieldAddr rfl) Wanted.none rfl rfl ?_
    refine TO.take 16 rfl (by kernel_rfl) (by kernel_rfl) (by kernel_rfl) (PV.load1 rfl zq0 rfl) Wanted.none rfl rfl ?_
    refine TO.take 17 rfl (by kernel_rfl) (by kernel_rfl) (by kernel_rfl) (PV.fieldAddr rfl) Wanted.none rfl rfl ?_
    refine TO.take 18 rfl (by kernel_rfl) (by kernel_rfl) (by kernel_rfl) (PV.load1 rfl zq0 rfl) Wanted.none rfl rfl ?_
    refine TO.take 19 rfl (by kernel_rfl) (by kernel_rfl) (by kernel_rfl) (PV.sub rfl rfl (by omega)) Wanted.none rfl rfl ?_
    refine TO.take 24 rfl (by kernel_rfl) (by kernel_rfl) (by kernel_rfl) (PV.move rfl) Wanted.none rfl rfl ?_
    refine TO.step 1 rfl (by kernel_rfl) zq4 zq17 ?_
    (refine T.callX Wanted.none rfl rfl (itoa_fn _ _ hT (by omega)) ?_; rintro _ rfl)
    refine so ?_
    refine TO.back ?_
    refine TO.take 2 rfl (by kernel_rfl) (by kernel_rfl) (by kernel_rfl) (PV.sadd rfl rfl (by omega)) Wanted.none rfl rfl ?_
    refine TO.take 5 rfl (by kernel_rfl) (by kernel_rfl) (by kernel_rfl) (PV.sadd rfl rfl (by omega)) Wanted.none rfl rfl ?_
    refine TO.take 6 rfl (by kernel_rfl) (by kernel_rfl) (by kernel_rfl) (PV.sadd rfl rfl (by omega)) Wanted.none rfl rfl ?_
    refine TO.step 12 rfl (by kernel_rfl) zq4 zq17 ?_
    (refine T.callX Wanted.none rfl rfl (itoa_fn _ _ hT (by omega)) ?_; rintro _ rfl)
    refine so ?_
    refine TO.back ?_
    refine TO.take 13 rfl (by kernel_rfl) (by kernel_rfl) (by kernel_rfl) (PV.sadd rfl rfl (by omega)) Wanted.none rfl rfl ?_
    refine TO.take 14 rfl (by kernel_rfl) (by kernel_rfl) (by kernel_rfl) (PV.sadd rfl rfl (by omega)) Wanted.none rfl rfl ?_
    refine TO.step 20 rfl (by kernel_rfl) zq4 zq17 ?_
    (refine T.callX Wanted.none rfl rfl (itoa_fn _ _ hT (by omega)) ?_; rintro _ rfl)
    refine so ?_
    refine TO.back ?_
    refine TO.take 21 rfl (by kernel_rfl) (by kernel_rfl) (by kernel_rfl) (PV.sadd rfl rfl (by omega)) Wanted.none rfl rfl ?_
    refine TO.step 22 rfl (by kernel_rfl) zq4 zq17 ?_
    refine T.strBytes Wanted.none rfl rfl ?_
    intro b42 cap42 H1 hle1 hcap1 hsl1
    have hS0 : hashS t m seed = itoaB seed ++ ⟨#[47]⟩ ++ t.ty ++ ⟨#[47]⟩ ++ itoaB (m.b - t.b) ++ ⟨#[47]⟩ ++ itoaB (m.e - m.b) := rfl
    have hO : hashO c m seed = fnv (hashS t m seed).data.toList := by unfold hashO; rw [hf]
    rw [hO, hS0]
    have hSs : (itoaB seed ++ ⟨#[47]⟩ ++ t.ty ++ ⟨#[47]⟩ ++ itoaB (m.b - t.b) ++ ⟨#[47]⟩ ++ itoaB (m.e - m.b)).size ≤ 1000100 := by rw [ByteArray.size_append, z6]; omega
    clear hcap1 z6 z5 z4 z3 z2 hS0 hO
    generalize itoaB seed ++ ⟨#[47]⟩ ++ t.ty ++ ⟨#[47]⟩ ++ itoaB (m.b - t.b) ++ ⟨#[47]⟩ ++ itoaB (m.e - m.b) = S at hsl1 hSs ⊢
    refine so ?_
    refine TO.back ?_
    refine TO.take 23 rfl (by kernel_rfl) (by kernel_rfl) (by kernel_rfl) (PV.lenSl rfl) Wanted.none rfl rfl ?_
    refine TO.done (by kernel_rfl) zq4 zq17 ?_
    refine T.block ?_
    refine T.loopK [(43, Value.int IntKind.i64 (↑S.size : Int)), (42, Value.slice (some { block := b42, off := 0 }) S.size cap42)] zq8 (γ := Nat) (fun i => i ≤ S.size) (fun i => [(44, .int .i64 (i : Int)), (9, .int .u32 (fnv (S.data.toList.take i)))]) (fun _ => []) (fun _ => H1) (fun i => S.size - i) 0 (Nat.zero_le _) zq8 (by repeat (first | exact Sel.refl _ | exact Sel.nil | (refine Sel.cons zq1 ?_) | (refine Sel.app zq1 ?_) | exact Sel.one zq1)) rfl ?_
    intro i hi0
    by_cases hi : i < S.size
    · obtain ⟨ch, hch⟩ := byteAt hi
      have hsub : SubC H1 b42 (0 + i * 1) [.int .u8 (ch.toNat : Int)] := by
        have hel := bytes_elem hch
        obtain ⟨b', o', cap', hve, hs⟩ := hsl1.elem hi hel
        injection hve with e1 e2 e3
        injection e1 with e1
        injection e1 with e1 e4
        subst e1 e4
        exact hs
      have hst : IntKind.wrap .u32 (xorI .u32 (fnv (S.data.toList.take i)) (IntKind.wrap .u32 (ch.toNat : Int)) * 16777619) = fnv (S.data.toList.take (i + 1)) := by
        unfold fnv
        rw [List.take_add_one, hch, List.foldl_append]; rfl
      refine sq ?_
      refine sr ?_
      refine sv (PV.lss rfl rfl) ?_
      refine so ?_
      refine sq ?_
      refine sc rfl (by omega) ?_
      refine T.skip ?_
      refine sq ?_
      refine T.block ?_
      refine sq ?_
      refine sr ?_
      refine sv (PV.indexAddr rfl rfl (by omega)) ?_
      refine sv (PV.loadSub0 rfl (by assumption)) ?_
      refine sa ?_
      refine so ?_
      refine sr ?_
      refine sm ?_
      refine sm ?_
      refine sv (PV.convK rfl) ?_
      refine sv (PV.xorK rfl rfl) ?_
      refine sv (PV.mulK rfl rfl) ?_
      rw [hst]
      refine sa ?_
      refine so ?_
      refine T.blkEnd ?_
      refine sr ?_
      refine sv (PV.add rfl rfl (by omega)) ?_
      refine sm ?_
      refine so ?_
      exact T.nextP (i + 1) (by omega) (by omega) zq8 (by repeat (first | exact Sel.refl _ | exact Sel.nil | (refine Sel.cons zq1 ?_) | (refine Sel.app zq1 ?_) | exact Sel.one zq1)) rfl
    · have hsz : S.data.toList.length = S.size := Array.length_toList
      have hl0 : S.data.toList.take i = S.data.toList := List.take_of_length_le (by omega)
      rw [hl0]
      refine sq ?_
      refine sr ?_
      refine sv (PV.lss rfl rfl) ?_
      refine so ?_
      refine sq ?_
      refine sd rfl (by omega) ?_
      refine T.exit rfl ?_
      refine sq ?_
      refine sr ?_
      refine sm ?_
      refine sa ?_
      refine so ?_
      exact T.retF (Lv.fin (RV.tmp rfl rfl) rfl)
end Go.Proofs.YtlklcjpmfjmenaaGreatDoor
namespace Go.Proofs.YtlklcjpmfjmenaaGreatDoor
open Go.RowKit

end Go.Proofs.YtlklcjpmfjmenaaGreatDoor
namespace Go.Proofs.YtlklcjpmfjmenaaGreatDoor
open Go.RowKit

theorem decD_step {u : Nat} (h : 10 ≤ u) : Lib.decDigits u = Lib.decDigits (u / 10) ++ Lib.decDigits (u % 10) := by
  rw [Lib.decDigits, dif_neg (by omega), Lib.decDigits_one (i := u % 10) (by omega)]
theorem baApp (a b : List UInt8) : (⟨a.toArray⟩ : ByteArray) ++ ⟨b.toArray⟩ = ⟨(a ++ b).toArray⟩ := by
  apply ByteArray.ext
  simp [ByteArray.data_append]
theorem itoaB_nat (u : Nat) : itoaB (u : Int) = ⟨(Lib.decDigits u).toArray⟩ := by unfold itoaB; rw [Lib.itoa_nonneg]
theorem itoaB_negN (u : Nat) (h : 1 ≤ u) : itoaB (-(u : Int)) = ⟨(45 :: Lib.decDigits u).toArray⟩ := by unfold itoaB; rw [Lib.itoa_neg u h]
theorem itoaB_one {n : Int} (h : 0 ≤ n ∧ n < 10) : itoaB n = ⟨[UInt8.ofNat (48 + n.toNat)].toArray⟩ := by
  obtain ⟨u, rfl⟩ : ∃ u : Nat, n = u := ⟨n.toNat, by omega⟩
  rw [itoaB_nat, Lib.decDigits_one (by omega), Int.toNat_natCast]
theorem tdiv_nat (u : Nat) : ((u : Int)).tdiv 10 = ((u / 10 : Nat) : Int) := rfl
theorem tmod_nat (u : Nat) : ((u : Int)).tmod 10 = ((u % 10 : Nat) : Int) := rfl
theorem tdiv_neg (u : Nat) : (-(u : Int)).tdiv 10 = -((u / 10 : Nat) : Int) := by rw [Int.neg_tdiv, tdiv_nat]
theorem tmod_neg (u : Nat) : (-(u : Int)).tmod 10 = -((u % 10 : Nat) : Int) := by rw [Int.neg_tmod, tmod_nat]
theorem itoaB_step {u : Nat} (h : 10 ≤ u) : itoaB (u : Int) = itoaB ((u / 10 : Nat) : Int) ++ itoaB ((u % 10 : Nat) : Int) := by
  rw [itoaB_nat, itoaB_nat, itoaB_nat, baApp, decD_step h]
theorem itoaB_minus1 {u : Nat} (h : 1 ≤ u) : itoaB (-(u : Int)) = ⟨#[45]⟩ ++ itoaB (u : Int) := by
  rw [itoaB_negN u h, itoaB_nat]
  exact (baApp [45] _).symm
theorem itoaB_minus {u : Nat} (h : 10 ≤ u) : itoaB (-(u : Int)) = itoaB (-((u / 10 : Nat) : Int)) ++ itoaB ((u % 10 : Nat) : Int) := by
  rw [itoaB_negN u (by omega), itoaB_negN _ (by omega), itoaB_nat, baApp, decD_step h]
  rfl
set_option maxHeartbeats 1000000 in
theorem dec_fnK (H : Hp) : ∀ (k : Nat) (n : Int), 2 * n.natAbs + (if n < 0 then 1 else 0) < k → -9223372036854775808 ≤ n ∧ n ≤ 9223372036854775807 → Fn Tryz.prog 52 #[.int .i64 n] H (fun u _ => u = .string (itoaB n)) := by
  intro k
  induction k with
  | zero => intro n h; omega
  | succ k ih =>
    intro n hk hn
    refine Fn.of_T (vs := [.int .i64 n]) Tryz.func52 rfl rfl fun w => ?_
    by_cases h0 : n < 0
    · rw [if_pos h0] at hk
      obtain ⟨u, hu⟩ : ∃ u : Nat, n = -(u : Int) := ⟨n.natAbs, by omega⟩
      have hu1 : 1 ≤ u := by omega
      by_cases h1 : -10 < n
      · have i1 := ih (-n) (by rw [if_neg (by omega)]; omega) (by omega)
        have z1 : (⟨#[45]⟩ : ByteArray).size = 1 := rfl
        have z2 := itoaB_size (-n) (by omega)
        refine sq ?_
        refine sr ?_
        refine sa ?_
        refine so ?_
        refine sq ?_
        refine sq ?_
        refine sr ?_
        refine sm ?_
        refine sv (PV.lss rfl rfl) ?_
        refine so ?_
        refine sc rfl (by omega) ?_
        refine sq ?_
        refine sq ?_
        refine sr ?_
        refine sm ?_
        refine sv (PV.gtr rfl rfl) ?_
        refine so ?_
        refine sc rfl (by omega) ?_
        refine sq ?_
        refine sr ?_
        refine sm ?_
        refine sv (PV.neg rfl (by omega)) ?_
        refine T.callV Wanted.none rfl rfl (i1) ?_
        refine sv (PV.sadd rfl rfl (by omega)) ?_
        refine sa ?_
        refine so ?_
        exact T.retF (Lv.fin (RV.tmp rfl rfl) (by rw [hu, itoaB_minus1 hu1, Int.neg_neg]))
      · have q := tdiv_neg u
        have r := tmod_neg u
        rw [← hu] at q r
        have i1 := ih (n.tdiv 10) (by rw [q, if_pos (by omega)]; omega) (by omega)
        have i2 := ih (-(n.tmod 10)) (by rw [r, if_neg (by omega)]; omega) (by omega)
        have z1 := itoaB_size (n.tdiv 10) (by omega)
        have z2 := itoaB_size (-(n.tmod 10)) (by omega)
        refine sq ?_
        refine sr ?_
        refine sa ?_
        refine so ?_
        refine sq ?_
        refine sq ?_
        refine sr ?_
        refine sm ?_
        refine sv (PV.lss rfl rfl) ?_
        refine so ?_
        refine sc rfl (by omega) ?_
        refine sq ?_
        refine sq ?_
        refine sr ?_
        refine sm ?_
        refine sv (PV.gtr rfl rfl) ?_
        refine so ?_
        refine sd rfl (by omega) ?_
        refine T.skip ?_
        refine sq ?_
        refine sr ?_
        refine sm ?_
        refine sv (PV.quo rfl rfl (by omega) (by omega)) ?_
        refine T.callV Wanted.none rfl rfl (i1) ?_
        refine sm ?_
        refine sv (PV.rem rfl rfl (by omega)) ?_
        refine sv (PV.neg rfl (by omega)) ?_
        refine T.callV Wanted.none rfl rfl (i2) ?_
        refine sv (PV.sadd rfl rfl (by omega)) ?_
        refine sa ?_
        refine so ?_
        exact T.retF (Lv.fin (RV.tmp rfl rfl) (by rw [q, r, Int.neg_neg, hu]; exact congrArg Value.string (itoaB_minus (by omega)).symm))
    · rw [if_neg h0] at hk
      obtain ⟨u, hu⟩ : ∃ u : Nat, n = (u : Int) := ⟨n.toNat, by omega⟩
      by_cases h1 : n < 10
      · have hw : IntKind.wrap .u8 (48 + n) = ((UInt8.ofNat (48 + n.toNat)).toNat : Int) := by
          have e1 : (UInt8.ofNat (48 + n.toNat)).toNat = 48 + n.toNat := by
            rw [UInt8.toNat_ofNat']
            omega
          rw [e1]
          unfold IntKind.wrap
          simp only [IntKind.bits, IntKind.signed]
          simp
          omega
        refine sq ?_
        refine sr ?_
        refine sa ?_
        refine so ?_
        refine sq ?_
        refine sq ?_
        refine sr ?_
        refine sm ?_
        refine sv (PV.lss rfl rfl) ?_
        refine so ?_
        refine sd rfl (by omega) ?_
        refine T.skip ?_
        refine sq ?_
        refine sq ?_
        refine sr ?_
        refine sm ?_
        refine sv (PV.lss rfl rfl) ?_
        refine so ?_
        refine sc rfl (by omega) ?_
        refine sq ?_
        refine sr ?_
        refine sm ?_
        refine sv (PV.add rfl rfl (by omega)) ?_
        refine sv (PV.convK rfl) ?_
        rw [hw]
        (refine T.buildSlice Wanted.none rfl rfl zq11 (by exact rfl) (by exact rfl) ?_; intro b24)
        refine T.pv (PV.bytesStr (bs := [UInt8.ofNat (48 + n.toNat)]) rfl (Src.cells (m := 1) (.own zq2) rfl rfl) ⟨_, _, rfl⟩) Wanted.none rfl rfl ?_
        refine sa ?_
        refine so ?_
        exact T.retF (Lv.fin (RV.tmp rfl rfl) (by rw [itoaB_one ⟨by omega, h1⟩]))
      · have q := tdiv_nat u
        have r := tmod_nat u
        rw [← hu] at q r
        have i1 := ih (n.tdiv 10) (by rw [q, if_neg (by omega)]; omega) (by omega)
        have i2 := ih (n.tmod 10) (by rw [r, if_neg (by omega)]; omega) (by omega)
        have z1 := itoaB_size (n.tdiv 10) (by omega)
        have z2 := itoaB_size (n.tmod 10) (by omega)
        refine sq ?_
        refine sr ?_
        refine sa ?_
        refine so ?_
        refine sq ?_
        refine sq ?_
        refine sr ?_
        refine sm ?_
        refine sv (PV.lss rfl rfl) ?_
        refine so ?_
        refine sd rfl (by omega) ?_
        refine T.skip ?_
        refine sq ?_
        refine sq ?_
        refine sr ?_
        refine sm ?_
        refine sv (PV.lss rfl rfl) ?_
        refine so ?_
        refine sd rfl (by omega) ?_
        refine T.skip ?_
        refine sq ?_
        refine sr ?_
        refine sm ?_
        refine sv (PV.quo rfl rfl (by omega) (by omega)) ?_
        refine T.callV Wanted.none rfl rfl (i1) ?_
        refine sm ?_
        refine sv (PV.rem rfl rfl (by omega)) ?_
        refine T.callV Wanted.none rfl rfl (i2) ?_
        refine sv (PV.sadd rfl rfl (by omega)) ?_
        refine sa ?_
        refine so ?_
        exact T.retF (Lv.fin (RV.tmp rfl rfl) (by rw [q, r, hu]; exact congrArg Value.string (itoaB_step (by omega)).symm))
theorem dec_fn (n : Int) (H : Hp) (hn : -9223372036854775808 ≤ n ∧ n ≤ 9223372036854775807) : Fn Tryz.prog 52 #[.int .i64 n] H (fun u _ => u = .string (itoaB n)) :=
  dec_fnK H _ n (Nat.lt_succ_self _) hn
end Go.Proofs.YtlklcjpmfjmenaaGreatDoor
namespace Go.Proofs.YtlklcjpmfjmenaaGreatDoor
open Go.RowKit

set_option maxHeartbeats 2000000 in
theorem hash_ref (c : Cp) (m : Mt) (seed : Int) (H : Hp) (hc : CpL H c) (hw : CpW c) (hm : LabOk H m) (hl : m.ls.length ≤ 1000) (hs : -9223372036854775808 ≤ seed ∧ seed ≤ 9223372036854775807) (htx : ∀ t ∈ c.tx, t.ty.size ≤ 1000000) :
    Fn Tryz.prog 17 #[cpV c, mtV m, .int .i64 seed] H (fun u _ => u = .int .u32 (hashO c m seed)) := by
  obtain ⟨al, cl, hmv⟩ := hm.1.len
  have hlt := hc.lt
  have hfi := fits_ref c m H hc hm hl
  have hto := textOf_ref c m.b H hc
  unfold cpV mtV at hfi
  unfold cpV at hto
  unfold cpV mtV
  rw [hmv] at hfi ⊢
  refine Fn.of_T (vs := [.agg #[c.va, c.vt, c.vx, c.vr, c.vn, c.vh, c.vs], .agg #[.int .i64 m.b, .int .i64 m.e, .slice al m.ls.length cl], .int .i64 seed]) Tryz.func17 rfl rfl fun w => ?_
  cases hf : fitO c m with
  | none =>
    rw [hf] at hfi
    change Fn _ _ _ _ (fun u _ => u = .bool false) at hfi
    refine sq ?_
    refine sr ?_
    (refine T.box Wanted.none rfl rfl zq15 ?_; intro b3)
    (refine T.box Wanted.none rfl rfl zq15 ?_; intro b4)
    refine sa ?_
    refine so ?_
    refine sq ?_
    refine sq ?_
    refine sr ?_
    refine sv (PV.loadAll rfl zq0 (by exact rfl)) ?_
    refine sv (PV.loadAll rfl zq0 (by exact rfl)) ?_
    refine T.callV Wanted.none rfl rfl (hfi) ?_
    refine sv (PV.not rfl) ?_
    refine so ?_
    refine T.condT rfl rfl ?_
    refine sq ?_
    refine sr ?_
    refine sa ?_
    refine so ?_
    exact T.retF (Lv.fin (RV.tmp rfl rfl) (by unfold hashO; rw [hf]))
  | some t =>
    rw [hf] at hfi
    change Fn _ _ _ _ (fun u _ => u = .bool true) at hfi
    obtain ⟨f1, f2, f3, f4, f5, f6, f7⟩ := fitO_some hw hf
    have q := htx t f1
    obtain ⟨ak, ck, hkv⟩ := (hc.x.2 t f1).1.len
    rw [fitO_find hf, Option.getD_some] at hto
    unfold rgV at hto
    rw [hkv] at hto
    change Fn _ _ _ _ (fun u _ => u = .tuple #[.agg #[.string t.ty, .int .i64 t.b, .int .i64 t.e, .slice ak t.ks.length ck], .bool true]) at hto
    have z0 := itoaB_size seed hs
    have zb := itoaB_size (m.b - t.b) (by omega)
    have ze := itoaB_size (m.e - m.b) (by omega)
    have z1 : (⟨#[47]⟩ : ByteArray).size = 1 := rfl
    have z2 : (itoaB seed ++ ⟨#[47]⟩).size = (itoaB seed).size + 1 := by rw [ByteArray.size_append]; rfl
    have z3 : (itoaB seed ++ ⟨#[47]⟩ ++ t.ty).size = (itoaB seed).size + 1 + t.ty.size := by rw [ByteArray.size_append, z2]
    have z4 : (itoaB seed ++ ⟨#[47]⟩ ++ t.ty ++ ⟨#[47]⟩).size = (itoaB seed).size + 1 + t.ty.size + 1 := by rw [ByteArray.size_append, z3]; rfl
    have z5 : (itoaB seed ++ ⟨#[47]⟩ ++ t.ty ++ ⟨#[47]⟩ ++ itoaB (m.b - t.b)).size = (itoaB seed).size + 1 + t.ty.size + 1 + (itoaB (m.b - t.b)).size := by rw [ByteArray.size_append, z4]
    have z6 : (itoaB seed ++ ⟨#[47]⟩ ++ t.ty ++ ⟨#[47]⟩ ++ itoaB (m.b - t.b) ++ ⟨#[47]⟩).size = (itoaB seed).size + 1 + t.ty.size + 1 + (itoaB (m.b - t.b)).size + 1 := by rw [ByteArray.size_append, z5]; rfl
    refine sq ?_
    refine sr ?_
    (refine T.box Wanted.none rfl rfl zq15 ?_; intro b3)
    (refine T.box Wanted.none rfl rfl zq15 ?_; intro b4)
    refine sa ?_
    refine so ?_
    refine sq ?_
    refine sq ?_
    refine sr ?_
    refine sv (PV.loadAll rfl zq0 (by exact rfl)) ?_
    refine sv (PV.loadAll rfl zq0 (by exact rfl)) ?_
    refine T.callV Wanted.none rfl rfl (hfi) ?_
    refine sv (PV.not rfl) ?_
    refine so ?_
    refine T.condF rfl rfl ?_
    refine T.skip ?_
    refine sq ?_
    refine sr ?_
    refine sv (PV.loadAll rfl zq0 (by exact rfl)) ?_
    refine sf ?_
    refine sl ?_
    refine T.callV Wanted.none rfl rfl (hto) ?_
    refine sm ?_
    refine sv (PV.extract rfl rfl) ?_
    refine sv (PV.extract rfl rfl) ?_
    refine sy fun b7 => ?_
    refine T.storeA Wanted.none rfl rfl zq8 (by exact rfl) zq14 zq13 ?_
    refine sa ?_
    refine so ?_
    (repeat refine sq ?_)
    refine T.regionO [(b7, .cells #[.string t.ty, .int .i64 t.b, .int .i64 t.e, .slice ak t.ks.length ck] 68 (0, 0)), (b4, .cells #[.int .i64 m.b, .int .i64 m.e, .slice al m.ls.length cl] 24 (0, 0))] (by kernel_rfl) ?_
    refine TO.take 0 rfl (by kernel_rfl) (by kernel_rfl) (by kernel_rfl) (PV.move rfl) Wanted.none rfl rfl ?_
    refine TO.take 3 rfl (by kernel_rfl) (by kernel_rfl) (by kernel_rfl) (PV.fieldAddr rfl) Wanted.none rfl rfl ?_
    refine TO.take 4 rfl (by kernel_rfl) (by kernel_rfl) (by kernel_rfl) (PV.load1 rfl zq0 rfl) Wanted.none rfl rfl ?_
    refine TO.take 7 rfl (by kernel_rfl) (by kernel_rfl) (by kernel_rfl) (PV.fieldAddr rfl) Wanted.none rfl rfl ?_
    refine TO.take 8 rfl (by kernel_rfl) (by kernel_rfl) (by kernel_rfl) (PV.load1 rfl zq0 rfl) Wanted.none rfl rfl ?_
    refine TO.take 9 rfl (by kernel_rfl) (by kernel_rfl) (by kernel_rfl) (PV.fieldAddr rfl) Wanted.none rfl rfl ?_
    refine TO.take 10 rfl (by kernel_rfl) (by kernel_rfl) (by kernel_rfl) (PV.load1 rfl zq0 rfl) Wanted.none rfl rfl ?_
    refine TO.take 11 rfl (by kernel_rfl) (by kernel_rfl) (by kernel_rfl) (PV.sub rfl rfl (by omega)) Wanted.none rfl rfl ?_
    refine TO.take 15 rfl (by kernel_rfl) (by kernel_rfl) (by kernel_rfl) (PV.fieldAddr rfl) Wanted.none rfl rfl ?_
    refine TO.take 16 rfl (by kernel_rfl) (by kernel_rfl) (by kernel_rfl) (PV.load1 rfl zq0 rfl) Wanted.none rfl rfl ?_
    refine TO.take 17 rfl (by kernel_rfl) (by kernel_rfl) (by kernel_rfl) (PV.fieldAddr rfl) Wanted.none rfl rfl ?_
    refine TO.take 18 rfl (by kernel_rfl) (by kernel_rfl) (by kernel_rfl) (PV.load1 rfl zq0 rfl) Wanted.none rfl rfl ?_
    refine TO.take 19 rfl (by kernel_rfl) (by kernel_rfl) (by kernel_rfl) (PV.sub rfl rfl (by omega)) Wanted.none rfl rfl ?_
    refine TO.step 1 rfl (by kernel_rfl) zq4 zq17 ?_
    (refine T.callX Wanted.none rfl rfl (dec_fn _ _ (by omega)) ?_; rintro _ rfl)
    refine so ?_
    refine TO.back ?_
    refine TO.take 2 rfl (by kernel_rfl) (by kernel_rfl) (by kernel_rfl) (PV.sadd rfl rfl (by omega)) Wanted.none rfl rfl ?_
    refine TO.take 5 rfl (by kernel_rfl) (by kernel_rfl) (by kernel_rfl) (PV.sadd rfl rfl (by omega)) Wanted.none rfl rfl ?_
    refine TO.take 6 rfl (by kernel_rfl) (by kernel_rfl) (by kernel_rfl) (PV.sadd rfl rfl (by omega)) Wanted.none rfl rfl ?_
    refine TO.step 12 rfl (by kernel_rfl) zq4 zq17 ?_
    (refine T.callX Wanted.none rfl rfl (dec_fn _ _ (by omega)) ?_; rintro _ rfl)
    refine so ?_
    refine TO.back ?_
    refine TO.take 13 rfl (by kernel_rfl) (by kernel_rfl) (by kernel_rfl) (PV.sadd rfl rfl (by omega)) Wanted.none rfl rfl ?_
    refine TO.take 14 rfl (by kernel_rfl) (by kernel_rfl) (by kernel_rfl) (PV.sadd rfl rfl (by omega)) Wanted.none rfl rfl ?_
    refine TO.step 20 rfl (by kernel_rfl) zq4 zq17 ?_
    (refine T.callX Wanted.none rfl rfl (dec_fn _ _ (by omega)) ?_; rintro _ rfl)
    refine so ?_
    refine TO.back ?_
    refine TO.take 21 rfl (by kernel_rfl) (by kernel_rfl) (by kernel_rfl) (PV.sadd rfl rfl (by omega)) Wanted.none rfl rfl ?_
    refine TO.take 22 rfl (by kernel_rfl) (by kernel_rfl) (by kernel_rfl) (PV.assign rfl) Wanted.none rfl rfl ?_
    refine TO.done (by kernel_rfl) zq4 zq17 ?_
    have hO : hashO c m seed = fnv (itoaB seed ++ ⟨#[47]⟩ ++ t.ty ++ ⟨#[47]⟩ ++ itoaB (m.b - t.b) ++ ⟨#[47]⟩ ++ itoaB (m.e - m.b)).data.toList := by unfold hashO; rw [hf]; rfl
    rw [hO]
    have hSs : (itoaB seed ++ ⟨#[47]⟩ ++ t.ty ++ ⟨#[47]⟩ ++ itoaB (m.b - t.b) ++ ⟨#[47]⟩ ++ itoaB (m.e - m.b)).size ≤ 1000100 := by rw [ByteArray.size_append, z6]; omega
    clear z6 z5 z4 z3 z2 hO
    generalize itoaB seed ++ ⟨#[47]⟩ ++ t.ty ++ ⟨#[47]⟩ ++ itoaB (m.b - t.b) ++ ⟨#[47]⟩ ++ itoaB (m.e - m.b) = S at hSs ⊢
    refine sq ?_
    refine sr ?_
    refine sa ?_
    refine so ?_
    refine sq ?_
    refine sq ?_
    refine sr ?_
    refine sa ?_
    refine so ?_
    refine T.block ?_
    refine T.loopK [(9, Value.string S)] zq8 (γ := Nat) (fun i => i ≤ S.size) (fun i => [(11, .int .i64 (i : Int)), (10, .int .u32 (fnv (S.data.toList.take i)))]) (fun _ => []) (fun _ => H) (fun i => S.size - i) 0 (Nat.zero_le _) zq8 (by repeat (first | exact Sel.refl _ | exact Sel.nil | (refine Sel.cons zq1 ?_) | (refine Sel.app zq1 ?_) | exact Sel.one zq1)) rfl ?_
    intro i hi0
    by_cases hi : i < S.size
    · obtain ⟨ch, hch⟩ := byteAt hi
      have hst : IntKind.wrap .u32 (xorI .u32 (fnv (S.data.toList.take i)) (IntKind.wrap .u32 (ch.toNat : Int)) * 16777619) = fnv (S.data.toList.take (i + 1)) := by
        unfold fnv
        rw [List.take_add_one, hch, List.foldl_append]; rfl
      refine sq ?_
      refine sq ?_
      refine sr ?_
      refine sm ?_
      refine sm ?_
      refine sv (PV.lenStr rfl) ?_
      refine sv (PV.lss rfl rfl) ?_
      refine so ?_
      refine sc rfl (by omega) ?_
      refine T.skip ?_
      refine sq ?_
      refine T.block ?_
      refine sr ?_
      refine sm ?_
      refine sm ?_
      refine sm ?_
      refine sv (PV.indexStr rfl rfl (by omega) (by assumption)) ?_
      refine sv (PV.convK rfl) ?_
      refine sv (PV.xorK rfl rfl) ?_
      refine sv (PV.mulK rfl rfl) ?_
      rw [hst]
      refine sa ?_
      refine so ?_
      refine T.blkEnd ?_
      refine sr ?_
      refine sm ?_
      refine sv (PV.add rfl rfl (by omega)) ?_
      refine sa ?_
      refine so ?_
      exact T.nextP (i + 1) (by omega) (by omega) zq8 (by repeat (first | exact Sel.refl _ | exact Sel.nil | (refine Sel.cons zq1 ?_) | (refine Sel.app zq1 ?_) | exact Sel.one zq1)) rfl
    · have hsz : S.data.toList.length = S.size := Array.length_toList
      have hl0 : S.data.toList.take i = S.data.toList := List.take_of_length_le (by omega)
      rw [hl0]
      refine sq ?_
      refine sq ?_
      refine sr ?_
      refine sm ?_
      refine sm ?_
      refine sv (PV.lenStr rfl) ?_
      refine sv (PV.lss rfl rfl) ?_
      refine so ?_
      refine sd rfl (by omega) ?_
      refine T.exit rfl ?_
      refine sq ?_
      refine sr ?_
      refine sm ?_
      refine sa ?_
      refine so ?_
      exact T.retF (Lv.fin (RV.tmp rfl rfl) rfl)
end Go.Proofs.YtlklcjpmfjmenaaGreatDoor
