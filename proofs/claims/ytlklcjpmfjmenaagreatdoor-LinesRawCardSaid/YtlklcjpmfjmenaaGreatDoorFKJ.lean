/- lines: comparing rows of a sorting. -/
import Derived.Test.YtlklcjpmfjmenaaGreatDoorGK
namespace Go.Proofs.YtlklcjpmfjmenaaGreatDoor
open Go.RowKit

/-- a match with its place and the values of the keys -/
structure Kr where
  m : Mt
  at_ : Int
  kv : Value
  ks : List ByteArray
def krV (r : Kr) : Value := .agg #[.int .i64 r.m.b, .int .i64 r.m.e, r.m.v, .int .i64 r.at_, r.kv]
def encKr (r : Kr) : List Value := [.int .i64 r.m.b, .int .i64 r.m.e, r.m.v, .int .i64 r.at_, r.kv]
theorem encKr_len (r : Kr) : (encKr r).length = 5 := rfl
def KrOk (H : Hp) (n : Nat) (r : Kr) : Prop := LabOk H r.m ∧ StL H r.kv r.ks ∧ r.ks.length = n
theorem KrOk.mono {H H' : Hp} {n : Nat} {r : Kr} (h : KrOk H n r) (hl : H.le H') : KrOk H' n r := ⟨h.1.mono hl, h.2.1.mono hl, h.2.2⟩
theorem one_encKr {H : Hp} {n : Nat} {r : Kr} (h : KrOk H n r) : ∀ v ∈ encKr r, v.oneCell' = true := by
  intro v hv
  obtain ⟨a1, c1, e1⟩ := h.1.1.len
  obtain ⟨a2, c2, e2⟩ := h.2.1.len
  simp only [encKr, List.mem_cons, List.not_mem_nil, or_false] at hv
  rcases hv with rfl | rfl | rfl | rfl | rfl
  · rfl
  · rfl
  · rw [e1]; rfl
  · rfl
  · rw [e2]; rfl
def cmpKs (z : Int) : List Ky → List ByteArray → List ByteArray → Int
  | k :: ks, s :: ss, t :: ts => if cmpS s t ≠ 0 then (if k.fall then - cmpS s t else cmpS s t) else cmpKs z ks ss ts
  | _, _, _ => z
def cmpR (ks : List Ky) (a b : Kr) : Int := cmpKs (cmpL (keyM a.m) (keyM b.m)) ks a.ks b.ks
theorem compareBytes_range : ∀ a b : List UInt8, Lib.compareBytes a b = -1 ∨ Lib.compareBytes a b = 0 ∨ Lib.compareBytes a b = 1
  | [], [] => by simp [Lib.compareBytes]
  | [], _ :: _ => by simp [Lib.compareBytes]
  | _ :: _, [] => by simp [Lib.compareBytes]
  | a :: u, b :: v => by
    have := compareBytes_range u v
    unfold Lib.compareBytes
    split
    · simp
    · split
      · simp
      · exact this
set_option maxHeartbeats 1000000 in
theorem cmpR_fn (ks : List Ky) (a b : Kr) (bk : Nat) (ak : Option Addr) (ck : Nat) (H : Hp) (ha : KrOk H ks.length a) (hb : KrOk H ks.length b) (hk : KyL H (.slice ak ks.length ck) ks) (hkl : ks.length ≤ 1000000) (hbk : H bk = some (.cells #[.slice ak ks.length ck] 47 (0, 0))) :
    Fn Tryz.prog 37 #[krV a, krV b, .pointer (some ⟨bk, 0, none⟩)] H (fun u _ => u = .int .i64 (cmpR ks a b)) := by
  obtain ⟨aa, ca, hav⟩ := ha.1.1.len
  obtain ⟨ab, cb, hbv⟩ := hb.1.1.len
  obtain ⟨a2, c2, hakv⟩ := ha.2.1.len
  obtain ⟨b2', c2', hbkv⟩ := hb.2.1.len
  have has := ha.2.1
  have hbs := hb.2.1
  rw [hakv] at has
  rw [hbkv] at hbs
  have hml := matchCompare_fn a.m b.m H ha.1 hb.1
  have hla := ha.2.2
  have hlb := hb.2.2
  unfold mtV at hml
  unfold krV
  rw [hav, hbv] at hml
  rw [hav, hbv, hakv, hbkv]
  refine Fn.of_T (vs := [.agg #[.int .i64 a.m.b, .int .i64 a.m.e, .slice aa a.m.ls.length ca, .int .i64 a.at_, .slice a2 a.ks.length c2], .agg #[.int .i64 b.m.b, .int .i64 b.m.e, .slice ab b.m.ls.length cb, .int .i64 b.at_, .slice b2' b.ks.length c2'], .pointer (some ⟨bk, 0, none⟩)]) Tryz.func37 rfl rfl fun w => ?_
  refine sq ?_
  refine sr ?_
  (refine T.box Wanted.none rfl rfl zq15 ?_; intro b3)
  (refine T.box Wanted.none rfl rfl zq15 ?_; intro b4)
  refine sa ?_
  refine so ?_
  refine sq ?_
  refine sq ?_
  refine sr ?_
  refine sl ?_
  refine sv (PV.lenSl rfl) ?_
  refine sm ?_
  refine so ?_
  refine T.block ?_
  refine T.loopC [(10, Value.int IntKind.i64 (↑ks.length : Int)), (9, Value.slice ak ks.length ck), (4, Value.pointer (some { block := b4, off := 0 })), (3, Value.pointer (some { block := b3, off := 0 }))] zq8 11 ks.length (fun i => cmpKs (cmpL (keyM a.m) (keyM b.m)) (ks.drop i) (a.ks.drop i) (b.ks.drop i) = cmpR ks a b) rfl rfl ?_
  rintro i ⟨hi0, hi1⟩
  by_cases hi : i < ks.length
  · obtain ⟨b1, off1, k, rfl, hix, hsub1⟩ := RowL.get encKy_len hk hi
    obtain ⟨b3, off3, s, rfl, his, hsub3⟩ := RowL.get encT_len has (i := i) (by omega)
    obtain ⟨b4, off4, t, rfl, hit, hsub4⟩ := RowL.get encT_len hbs (i := i) (by omega)
    unfold encKy at hsub1
    unfold encT at hsub3 hsub4
    have hsc := strCompare_fn s t H
    have hrg := compareBytes_range s.data.toList t.data.toList
    change cmpS s t = -1 ∨ cmpS s t = 0 ∨ cmpS s t = 1 at hrg
    rw [List.drop_eq_getElem_cons hi, (List.getElem?_eq_some_iff.1 hix).2, List.drop_eq_getElem_cons (by omega : i < a.ks.length), (List.getElem?_eq_some_iff.1 his).2, List.drop_eq_getElem_cons (by omega : i < b.ks.length), (List.getElem?_eq_some_iff.1 hit).2, cmpKs] at hi1
    by_cases h0 : cmpS s t = 0
    · rw [if_neg (by omega)] at hi1
      refine sq ?_
      refine sr ?_
      refine sv (PV.lss rfl rfl) ?_
      refine so ?_
      refine sq ?_
      refine sc rfl (by omega) ?_
      refine T.skip ?_
      refine sq ?_
      refine T.block ?_
      refine sq ?_
      refine sr ?_
      refine sm ?_
      refine sv (PV.indexAddr rfl rfl (by omega)) ?_
      refine sv (PV.loadSubAll rfl (by assumption) (by exact rfl)) ?_
      refine sy fun b7 => ?_
      refine sa ?_
      refine T.storeA Wanted.none rfl rfl zq8 (by exact rfl) zq14 zq13 ?_
      refine so ?_
      refine sq ?_
      refine T.regionQ (by kernel_rfl) ?_
      refine TQ.pv (PV.fieldAddr rfl) Wanted.none rfl rfl ?_
      refine TQ.pv (PV.load1 rfl zq0 rfl) Wanted.none rfl rfl ?_
      refine TQ.pv (PV.move rfl) Wanted.none rfl rfl ?_
      refine TQ.pv (PV.indexAddr rfl rfl (by omega)) Wanted.none rfl rfl ?_
      refine TQ.pv (PV.loadSub0 rfl (by assumption)) Wanted.none rfl rfl ?_
      refine TQ.pv (PV.fieldAddr rfl) Wanted.none rfl rfl ?_
      refine TQ.pv (PV.load1 rfl zq0 rfl) Wanted.none rfl rfl ?_
      refine TQ.pv (PV.move rfl) Wanted.none rfl rfl ?_
      refine TQ.pv (PV.indexAddr rfl rfl (by omega)) Wanted.none rfl rfl ?_
      refine TQ.pv (PV.loadSub0 rfl (by assumption)) Wanted.none rfl rfl ?_
      refine TQ.callV Wanted.none rfl rfl (hsc) ?_
      refine TQ.pv (PV.assign rfl) Wanted.none rfl rfl ?_
      refine TQ.nil ?_
      refine sq ?_
      refine sr ?_
      refine sm ?_
      refine sv (PV.neq rfl rfl) ?_
      refine so ?_
      refine sd rfl (by omega) ?_
      refine T.skip ?_
      refine T.blkEnd ?_
      refine sr ?_
      refine sv (PV.add rfl rfl (by omega)) ?_
      refine sm ?_
      refine so ?_
      exact T.nextC hi hi1 rfl zq8 (by repeat (first | exact Sel.refl _ | exact Sel.nil | (refine Sel.cons zq1 ?_) | (refine Sel.app zq1 ?_) | exact Sel.one zq1))
    · rw [if_pos h0] at hi1
      cases hfl : k.fall
      · rw [hfl] at hi1
        refine sq ?_
        refine sr ?_
        refine sv (PV.lss rfl rfl) ?_
        refine so ?_
        refine sq ?_
        refine sc rfl (by omega) ?_
        refine T.skip ?_
        refine sq ?_
        refine T.block ?_
        refine sq ?_
        refine sr ?_
        refine sm ?_
        refine sv (PV.indexAddr rfl rfl (by omega)) ?_
        refine sv (PV.loadSubAll rfl (by assumption) (by exact rfl)) ?_
        refine sy fun b7 => ?_
        refine sa ?_
        refine T.storeA Wanted.none rfl rfl zq8 (by exact rfl) zq14 zq13 ?_
        refine so ?_
        refine sq ?_
        refine T.regionQ (by kernel_rfl) ?_
        refine TQ.pv (PV.fieldAddr rfl) Wanted.none rfl rfl ?_
        refine TQ.pv (PV.load1 rfl zq0 rfl) Wanted.none rfl rfl ?_
        refine TQ.pv (PV.move rfl) Wanted.none rfl rfl ?_
        refine TQ.pv (PV.indexAddr rfl rfl (by omega)) Wanted.none rfl rfl ?_
        refine TQ.pv (PV.loadSub0 rfl (by assumption)) Wanted.none rfl rfl ?_
        refine TQ.pv (PV.fieldAddr rfl) Wanted.none rfl rfl ?_
        refine TQ.pv (PV.load1 rfl zq0 rfl) Wanted.none rfl rfl ?_
        refine TQ.pv (PV.move rfl) Wanted.none rfl rfl ?_
        refine TQ.pv (PV.indexAddr rfl rfl (by omega)) Wanted.none rfl rfl ?_
        refine TQ.pv (PV.loadSub0 rfl (by assumption)) Wanted.none rfl rfl ?_
        refine TQ.callV Wanted.none rfl rfl (hsc) ?_
        refine TQ.pv (PV.assign rfl) Wanted.none rfl rfl ?_
        refine TQ.nil ?_
        refine sq ?_
        refine sr ?_
        refine sm ?_
        refine sv (PV.neq rfl rfl) ?_
        refine so ?_
        refine sc rfl (by omega) ?_
        refine sq ?_
        refine sq ?_
        refine sr ?_
        refine sf ?_
        refine sl ?_
        refine so ?_
        refine T.condF rfl (by assumption) ?_
        refine T.skip ?_
        refine sq ?_
        refine sr ?_
        refine sm ?_
        refine sa ?_
        refine so ?_
        exact T.retF (Lv.fin (RV.tmp rfl rfl) (by rw [← hi1]; rfl))
      · rw [hfl] at hi1
        refine sq ?_
        refine sr ?_
        refine sv (PV.lss rfl rfl) ?_
        refine so ?_
        refine sq ?_
        refine sc rfl (by omega) ?_
        refine T.skip ?_
        refine sq ?_
        refine T.block ?_
        refine sq ?_
        refine sr ?_
        refine sm ?_
        refine sv (PV.indexAddr rfl rfl (by omega)) ?_
        refine sv (PV.loadSubAll rfl (by assumption) (by exact rfl)) ?_
        refine sy fun b7 => ?_
        refine sa ?_
        refine T.storeA Wanted.none rfl rfl zq8 (by exact rfl) zq14 zq13 ?_
        refine so ?_
        refine sq ?_
        refine T.regionQ (by kernel_rfl) ?_
        refine TQ.pv (PV.fieldAddr rfl) Wanted.none rfl rfl ?_
        refine TQ.pv (PV.load1 rfl zq0 rfl) Wanted.none rfl rfl ?_
        refine TQ.pv (PV.move rfl) Wanted.none rfl rfl ?_
        refine TQ.pv (PV.indexAddr rfl rfl (by omega)) Wanted.none rfl rfl ?_
        refine TQ.pv (PV.loadSub0 rfl (by assumption)) Wanted.none rfl rfl ?_
        refine TQ.pv (PV.fieldAddr rfl) Wanted.none rfl rfl ?_
        refine TQ.pv (PV.load1 rfl zq0 rfl) Wanted.none rfl rfl ?_
        refine TQ.pv (PV.move rfl) Wanted.none rfl rfl ?_
        refine TQ.pv (PV.indexAddr rfl rfl (by omega)) Wanted.none rfl rfl ?_
        refine TQ.pv (PV.loadSub0 rfl (by assumption)) Wanted.none rfl rfl ?_
        refine TQ.callV Wanted.none rfl rfl (hsc) ?_
        refine TQ.pv (PV.assign rfl) Wanted.none rfl rfl ?_
        refine TQ.nil ?_
        refine sq ?_
        refine sr ?_
        refine sm ?_
        refine sv (PV.neq rfl rfl) ?_
        refine so ?_
        refine sc rfl (by omega) ?_
        refine sq ?_
        refine sq ?_
        refine sr ?_
        refine sf ?_
        refine sl ?_
        refine so ?_
        refine T.condT rfl (by assumption) ?_
        refine sr ?_
        refine sm ?_
        refine sv (PV.neg rfl (by omega)) ?_
        refine sa ?_
        refine so ?_
        refine sq ?_
        refine sr ?_
        refine sm ?_
        refine sa ?_
        refine so ?_
        exact T.retF (Lv.fin (RV.tmp rfl rfl) (by rw [← hi1]; rfl))
  · rw [List.drop_of_length_le (by omega)] at hi1
    refine sq ?_
    refine sr ?_
    refine sv (PV.lss rfl rfl) ?_
    refine so ?_
    refine sq ?_
    refine sd rfl (by omega) ?_
    refine T.exit rfl ?_
    refine sq ?_
    refine sr ?_
    refine sf ?_
    refine sv (PV.loadAgg (vs := [.int .i64 a.m.b, .int .i64 a.m.e, .slice aa a.m.ls.length ca]) rfl zq0 (by exact rfl) (by exact rfl)) ?_
    refine sf ?_
    refine sv (PV.loadAgg (vs := [.int .i64 b.m.b, .int .i64 b.m.e, .slice ab b.m.ls.length cb]) rfl zq0 (by exact rfl) (by exact rfl)) ?_
    refine T.callV Wanted.none rfl rfl (hml) ?_
    refine sa ?_
    refine so ?_
    exact T.retF (Lv.fin (RV.tmp rfl rfl) (by rw [← hi1]; rfl))
end Go.Proofs.YtlklcjpmfjmenaaGreatDoor
