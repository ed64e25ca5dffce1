/- lines: Sort: the program. -/
import Derived.Test.YtlklcjpmfjmenaaGreatDoorFKL
import Derived.Test.YtlklcjpmfjmenaaGreatDoorFKD
namespace Go.Proofs.YtlklcjpmfjmenaaGreatDoor
open Go.RowKit

def valsO (c : Cp) (lb : List ByteArray) (ks : List Ky) (m : Mt) : List ByteArray := ks.map (valO c lb m)
abbrev Kq := (Int × Int × List Int) × List ByteArray
def krK (r : Kr) : Kq := (mk3 r.m, r.ks)
def mtK (c : Cp) (lb : List ByteArray) (ks : List Ky) (m : Mt) : Kq := (mk3 m, valsO c lb ks m)
def ltQ (ks : List Ky) (p q : Kq) : Bool := decide (cmpKs (cmpL (p.1.1 :: p.1.2.1 :: p.1.2.2) (q.1.1 :: q.1.2.1 :: q.1.2.2)) ks p.2 q.2 < 0)
def cmpM (c : Cp) (lb : List ByteArray) (ks : List Ky) (a b : Mt) : Int := cmpKs (cmpL (keyM a) (keyM b)) ks (valsO c lb ks a) (valsO c lb ks b)
def sortM (c : Cp) (lb : List ByteArray) (ks : List Ky) (L : List Mt) : List Mt := sortK (fun a b => decide (cmpM c lb ks a b < 0)) L
def fitsM (c : Cp) (lb : List ByteArray) (m : Mt) : Bool := (fitO c m).isSome && decide (m.ls.length = lb.length)
def srtE (c : Cp) (lb : List ByteArray) (ks : List Ky) (L : List Mt) : Int := if keyErr c lb ks ≠ 0 then keyErr c lb ks else if L.all (fitsM c lb) then 0 else 8
theorem rows_sorted {c : Cp} {lb : List ByteArray} {ks : List Ky} {R : List Kr} {L : List Mt} (h : R.map krK = L.map (mtK c lb ks)) :
    (sortK (fun a b => decide (cmpR ks a b < 0)) R).map (fun r => mk3 r.m) = (sortM c lb ks L).map mk3 := by
  have h1 := sortK_map krK (fun a b => decide (cmpR ks a b < 0)) (ltQ ks) R (fun x _ y _ => rfl)
  have h2 := sortK_map (mtK c lb ks) (fun a b => decide (cmpM c lb ks a b < 0)) (ltQ ks) L (fun x _ y _ => rfl)
  rw [h, h2] at h1
  have h3 := congrArg (List.map Prod.fst) h1
  rw [List.map_map, List.map_map] at h3
  exact h3.symm
structure StG where
  i : Nat
  H : Hp
  v : Value
  lv : List (Nat × Obj)
  R : List Kr
structure SkG where
  j : Nat
  v : Value
  lv : List (Nat × Obj)
structure SuG where
  j : Nat
  v : Value
  lv : List (Nat × Obj)
theorem MtV.snoc' {v : Value} {lv : List (Nat × Obj)} {l : List Mt} {m : Mt} (h : Vec 24 3 v lv (l.length + 1) (l.flatMap encM ++ encM m)) : RowV 24 encM 3 v lv (l ++ [m]) := by
  have e : (l ++ [m]).length = l.length + 1 := by simp
  show Vec _ _ _ _ _ _
  rw [e, List.flatMap_append]
  simpa using h
set_option maxHeartbeats 8000000 in
theorem sort_in (c : Cp) (lb : List ByteArray) (L : List Mt) (ks : List Ky) (vl vm vk : Value) (H : Hp) (hc : CpL H c) (hw : CpW c) (hlb : StL H vl lb) (hL : MtL H vm L) (hk : KyL H vk ks) (hll : lb.length ≤ 1000) (hLl : L.length ≤ 19) (hkl : ks.length ≤ 1000000) (hls : ∀ m ∈ L, m.ls.length ≤ 1000) :
    Fn Tryz.prog 10 #[cpV c, vl, vm, vk] H (fun u H' => ∃ v L', u = .tuple #[v, .int .i64 (srtE c lb ks L)] ∧ MtL H' v L' ∧ (srtE c lb ks L = 0 → L'.map mk3 = (sortM c lb ks L).map mk3) ∧ (srtE c lb ks L ≠ 0 → L' = [])) := by
  obtain ⟨ab, cb, rfl⟩ := hlb.len
  obtain ⟨am, cm, rfl⟩ := hL.1.len
  obtain ⟨ak, ck, rfl⟩ := hk.len
  have hck := checkKeys_in c lb ks (.slice ab lb.length cb) (.slice ak ks.length ck) H hc hlb hk hll hkl
  unfold cpV at hck
  unfold cpV
  refine Fn.of_T (vs := [.agg #[c.va, c.vt, c.vx, c.vr, c.vn, c.vh, c.vs], .slice ab lb.length cb, .slice am L.length cm, .slice ak ks.length ck]) Tryz.func10 rfl rfl fun w => ?_
  by_cases he : keyErr c lb ks = 0
  · refine sq ?_
    refine sr ?_
    (refine T.box Wanted.none rfl rfl zq15 ?_; intro b4)
    (refine T.box Wanted.none rfl rfl zq15 ?_; intro b7)
    refine sa ?_
    refine sa ?_
    refine so ?_
    refine sq ?_
    refine sq ?_
    refine sr ?_
    refine sv (PV.loadAll rfl zq0 (by exact rfl)) ?_
    refine sm ?_
    refine sl ?_
    refine T.callV Wanted.none rfl rfl (hck) ?_
    refine sa ?_
    refine so ?_
    refine sq ?_
    refine sr ?_
    refine sm ?_
    refine sv (PV.neq rfl rfl) ?_
    refine so ?_
    refine sd rfl (by omega) ?_
    refine T.skip ?_
    refine sq ?_
    refine sr ?_
    refine sa ?_
    refine so ?_
    refine sq ?_
    refine sq ?_
    refine sr ?_
    refine sm ?_
    refine sv (PV.lenSl rfl) ?_
    refine sm ?_
    refine so ?_
    refine T.block ?_
    refine T.loopK [(30, Value.int IntKind.i64 (↑L.length : Int)), (29, Value.slice am L.length cm), (7, Value.pointer (some { block := b7, off := 0 })), (4, Value.pointer (some { block := b4, off := 0 })), (1, Value.slice ab lb.length cb)] zq8 (γ := StG) (fun g => g.i ≤ L.length ∧ H.le g.H ∧ RowV 79 encKr 5 g.v g.lv g.R ∧ (∀ r ∈ g.R, KrOk g.H ks.length r) ∧ g.R.map krK = (L.take g.i).map (mtK c lb ks) ∧ (L.take g.i).all (fitsM c lb) = true) (fun g => [(31, .int .i64 (g.i : Int)), (11, g.v)]) (fun g => g.lv ++ [(b7, .cells #[.slice ak ks.length ck] 47 (0, 0)), (b4, .cells #[c.va, c.vt, c.vx, c.vr, c.vn, c.vh, c.vs] 34 (0, 0))]) (fun g => g.H) (fun g => L.length - g.i) ⟨0, H, .slice none 0 0, [], []⟩ ⟨by simp, Hp.le.refl _, Vec.nil _ _, by simp, by simp, by simp⟩ zq8 (by repeat (first | exact Sel.refl _ | exact Sel.nil | (refine Sel.cons zq1 ?_) | (refine Sel.app zq1 ?_) | exact Sel.one zq1)) rfl ?_
    rintro ⟨i, H2, v, lv, R⟩ ⟨g1, g2, g3, g4, g5, g6⟩
    dsimp only at g1 g2 g3 g4 g5 g6 ⊢
    obtain ⟨adv, capv, rfl⟩ := g3.val
    have hRl : R.length = i := by have := congrArg List.length g5; simp only [List.length_map, List.length_take] at this; omega
    by_cases hi : i < L.length
    · obtain ⟨bx, off, m, rfl, hix, hsub⟩ := RowL.get encM_len (hL.1.mono g2) hi
      have hmm := List.mem_of_getElem? hix
      have hlab := (hL.2 m hmm).mono g2
      obtain ⟨al, cl, hmv⟩ := hlab.1.len
      unfold encM at hsub
      rw [hmv] at hsub
      have hc2 := hc.mono g2
      have hfi := fits_in c m H2 hc2 hw hlab (hls m hmm)
      have hcp := copied_fn m H2 hlab
      unfold cpV mtV at hfi
      unfold mtV at hcp
      rw [hmv] at hfi hcp
      dsimp only at hcp
      have htk : (L.take (i + 1)).all (fitsM c lb) = fitsM c lb m := by rw [List.take_add_one, hix, List.all_append, g6]; simp
      have hne : ∀ (hq : fitsM c lb m = false), srtE c lb ks L = 8 := by
        intro hq
        unfold srtE
        rw [if_neg (by simpa using he), if_neg]
        rw [List.all_eq_true]
        intro h
        have := h m hmm
        rw [hq] at this
        cases this
      cases hf : fitO c m with
      | none =>
        have h8 := hne (by unfold fitsM; rw [hf]; rfl)
        rw [hf] at hfi
        change Fn _ _ _ _ (fun u _ => u = .tuple #[.agg #[.string (bs []), .int .i64 0, .int .i64 0, .slice none 0 0], .bool false]) at hfi
        refine sq ?_
        refine sr ?_
        refine sv (PV.lss rfl rfl) ?_
        refine so ?_
        refine sq ?_
        refine sc rfl (by omega) ?_
        refine T.skip ?_
        refine sq ?_
        refine T.block ?_
        refine sq ?_
        refine sr ?_
        refine sm ?_
        refine sv (PV.indexAddr rfl rfl (by omega)) ?_
        refine sv (PV.loadSubAll rfl (by assumption) (by exact rfl)) ?_
        refine sy fun b13 => ?_
        refine sa ?_
        refine T.storeA Wanted.none rfl rfl zq8 (by exact rfl) zq14 zq13 ?_
        refine so ?_
        refine sq ?_
        refine sq ?_
        refine sr ?_
        refine sv (PV.loadAll rfl zq0 (by exact rfl)) ?_
        refine sv (PV.loadAll rfl zq0 (by exact rfl)) ?_
        refine T.callV Wanted.none rfl rfl (hfi) ?_
        refine sm ?_
        refine sv (PV.extract rfl rfl) ?_
        refine sv (PV.extract rfl rfl) ?_
        refine sy fun b14 => ?_
        refine T.storeA Wanted.none rfl rfl zq8 (by exact rfl) zq14 zq13 ?_
        refine sa ?_
        refine so ?_
        refine sq ?_
        refine sr ?_
        refine sm ?_
        refine sv (PV.not rfl) ?_
        refine sm ?_
        refine sp ?_
        refine sp ?_
        refine sp ?_
        refine sp ?_
        refine sp ?_
        refine sp ?_
        refine sT ?_
        refine so ?_
        refine T.condT rfl rfl ?_
        refine sq ?_
        refine sr ?_
        refine sa ?_
        refine sa ?_
        refine so ?_
        exact T.retF (Lv.fin (RV.tmp2 rfl rfl rfl) ⟨_, [], by rw [h8], ⟨SlR.empty, by simp⟩, by rw [h8]; intro h; omega, fun _ => rfl⟩)
      | some t =>
        have hmem := (fitO_some hw hf).1
        obtain ⟨at1, ct, hkv⟩ := (hc2.x.2 t hmem).1.len
        rw [hf, Option.getD_some] at hfi
        unfold rgV at hfi
        rw [hkv] at hfi
        change Fn _ _ _ _ (fun u _ => u = .tuple #[.agg #[.string t.ty, .int .i64 t.b, .int .i64 t.e, .slice at1 t.ks.length ct], .bool true]) at hfi
        by_cases hml : m.ls.length = lb.length
        · have hml2 : ((m.ls.length : Nat) : Int) = (lb.length : Nat) := by omega
          have hfit : fitsM c lb m = true := by unfold fitsM; rw [hf, decide_eq_true hml]; rfl
          refine sq ?_
          refine sr ?_
          refine sv (PV.lss rfl rfl) ?_
          refine so ?_
          refine sq ?_
          refine sc rfl (by omega) ?_
          refine T.skip ?_
          refine sq ?_
          refine T.block ?_
          refine sq ?_
          refine sr ?_
          refine sm ?_
          refine sv (PV.indexAddr rfl rfl (by omega)) ?_
          refine sv (PV.loadSubAll rfl (by assumption) (by exact rfl)) ?_
          refine sy fun b13 => ?_
          refine sa ?_
          refine T.storeA Wanted.none rfl rfl zq8 (by exact rfl) zq14 zq13 ?_
          refine so ?_
          refine sq ?_
          refine sq ?_
          refine sr ?_
          refine sv (PV.loadAll rfl zq0 (by exact rfl)) ?_
          refine sv (PV.loadAll rfl zq0 (by exact rfl)) ?_
          refine T.callV Wanted.none rfl rfl (hfi) ?_
          refine sm ?_
          refine sv (PV.extract rfl rfl) ?_
          refine sv (PV.extract rfl rfl) ?_
          refine sy fun b14 => ?_
          refine T.storeA Wanted.none rfl rfl zq8 (by exact rfl) zq14 zq13 ?_
          refine sa ?_
          refine so ?_
          refine sq ?_
          refine sr ?_
          refine sm ?_
          refine sv (PV.not rfl) ?_
          refine sm ?_
          refine gf ?_
          refine gl ?_
          refine gv (PV.lenSl rfl) ?_
          refine gm ?_
          refine gv (PV.lenSl rfl) ?_
          refine gv (PV.neq rfl rfl) ?_
          refine sF ?_
          refine so ?_
          refine sd rfl (by omega) ?_
          refine T.skip ?_
          refine sq ?_
          refine sr ?_
          refine sv (PV.loadAll rfl zq0 (by exact rfl)) ?_
          (refine T.call Wanted.none rfl rfl hcp ?_; rintro _ H53 h53 ⟨v53, rfl, hm53⟩; have hq53 : InL H53 v53 m.ls := hm53.1; obtain ⟨ad53, cap53, rfl⟩ := hq53.len)
          refine sm ?_
          refine sv (PV.build rfl zq12) ?_
          refine sy fun b16 => ?_
          refine T.storeA Wanted.none rfl rfl zq8 (by exact rfl) zq14 zq13 ?_
          refine so ?_
          refine sq ?_
          refine sq ?_
          refine sr ?_
          refine sl ?_
          refine sv (PV.lenSl rfl) ?_
          refine sm ?_
          refine so ?_
          refine T.block ?_
          refine T.loopK [(57, Value.int IntKind.i64 (↑ks.length : Int)), (56, Value.slice ak ks.length ck), (16, Value.pointer (some { block := b16, off := 0 })), (13, Value.pointer (some { block := b13, off := 0 })), (31, Value.int IntKind.i64 (↑i : Int)), (11, Value.slice adv R.length capv), (30, Value.int IntKind.i64 (↑L.length : Int)), (29, Value.slice (some { block := bx, off := off }) L.length cm), (7, Value.pointer (some { block := b7, off := 0 })), (4, Value.pointer (some { block := b4, off := 0 })), (1, Value.slice ab lb.length cb)] zq8 (γ := SkG) (fun g => g.j ≤ ks.length ∧ StV g.v g.lv g.j ((valsO c lb ks m).take g.j)) (fun g => [(58, .int .i64 (g.j : Int))]) (fun g => (b16, .cells #[.int .i64 m.b, .int .i64 m.e, .slice ad53 m.ls.length cap53, .int .i64 (i : Int), g.v] 79 (0, 0)) :: (g.lv ++ (lv ++ [(b13, .cells #[.int .i64 m.b, .int .i64 m.e, .slice al m.ls.length cl] 24 (0, 0)), (b7, .cells #[.slice ak ks.length ck] 47 (0, 0)), (b4, .cells #[c.va, c.vt, c.vx, c.vr, c.vn, c.vh, c.vs] 34 (0, 0))]))) (fun _ => H53) (fun g => ks.length - g.j) ⟨0, .slice none 0 0, []⟩ ⟨by simp, Vec.nil _ _⟩ zq8 (by repeat (first | exact Sel.refl _ | exact Sel.nil | (refine Sel.cons zq1 ?_) | (refine Sel.app zq1 ?_) | exact Sel.one zq1)) rfl ?_
          rintro ⟨j, v3, lv3⟩ ⟨j1, j2⟩
          dsimp only at j1 j2 ⊢
          obtain ⟨ad3, cap3, rfl⟩ := j2.val
          by_cases hj : j < ks.length
          · obtain ⟨b5, off5, k, rfl, hkx, hsubk⟩ := RowL.get encKy_len (hk.mono (g2.trans h53)) hj
            unfold encKy at hsubk
            have hval := value_in c lb (.slice ab lb.length cb) m k H53 (hc2.mono h53) hw (hlb.mono (g2.trans h53)) (hlab.mono h53) (hls m hmm)
            unfold cpV mtV kyV at hval
            rw [hmv] at hval
            have hsn : (valsO c lb ks m).take (j + 1) = (valsO c lb ks m).take j ++ [valO c lb m k] := by unfold valsO; rw [List.take_add_one, List.getElem?_map, hkx]; rfl
            refine sq ?_
            refine sr ?_
            refine sv (PV.lss rfl rfl) ?_
            refine so ?_
            refine sq ?_
            refine sc rfl (by omega) ?_
            refine T.skip ?_
            refine sq ?_
            refine T.block ?_
            refine sq ?_
            refine sr ?_
            refine sv (PV.indexAddr rfl rfl (by omega)) ?_
            refine sv (PV.loadSubAll rfl (by assumption) (by exact rfl)) ?_
            refine sy fun b18 => ?_
            refine T.storeA Wanted.none rfl rfl zq8 (by exact rfl) zq14 zq13 ?_
            refine so ?_
            (repeat refine sq ?_)
            refine T.regionS [(b18, .cells #[.int .i64 k.at_, .int .i64 k.off, .string k.lb, .string k.nm, .bool k.fold, .bool k.back, .bool k.fall] 26 (0, 0)), (b16, .cells #[.int .i64 m.b, .int .i64 m.e, .slice ad53 m.ls.length cap53, .int .i64 (i : Int), .slice ad3 j cap3] 79 (0, 0)), (b13, .cells #[.int .i64 m.b, .int .i64 m.e, .slice al m.ls.length cl] 24 (0, 0)), (b4, .cells #[c.va, c.vt, c.vx, c.vr, c.vn, c.vh, c.vs] 34 (0, 0))] 10 (by kernel_rfl) ?_
            refine TS.take 0 rfl (by kernel_rfl) (by kernel_rfl) (by kernel_rfl) (by kernel_rfl) (PV.fieldAddr rfl) Wanted.none rfl rfl ?_
            refine TS.take 1 rfl (by kernel_rfl) (by kernel_rfl) (by kernel_rfl) (by kernel_rfl) (PV.load1 rfl zq0 rfl) Wanted.none rfl rfl ?_
            refine TS.take 2 rfl (by kernel_rfl) (by kernel_rfl) (by kernel_rfl) (by kernel_rfl) (PV.loadAll rfl zq0 (by exact rfl)) Wanted.none rfl rfl ?_
            refine TS.take 3 rfl (by kernel_rfl) (by kernel_rfl) (by kernel_rfl) (by kernel_rfl) (PV.move rfl) Wanted.none rfl rfl ?_
            refine TS.take 4 rfl (by kernel_rfl) (by kernel_rfl) (by kernel_rfl) (by kernel_rfl) (PV.loadAll rfl zq0 (by exact rfl)) Wanted.none rfl rfl ?_
            refine TS.take 5 rfl (by kernel_rfl) (by kernel_rfl) (by kernel_rfl) (by kernel_rfl) (PV.loadAll rfl zq0 (by exact rfl)) Wanted.none rfl rfl ?_
            refine TS.ways [6] (by kernel_rfl) rfl zq18 ⟨⟨_, rfl, ?_⟩, trivial⟩
            refine T.callV Wanted.none rfl rfl (hval) ?_
            refine so ?_
            refine TS.back ?_
            refine TS.ways [7] (by kernel_rfl) rfl zq18 ⟨⟨_, rfl, ?_⟩, trivial⟩
            (refine T.buildSlice Wanted.none rfl rfl zq11 (by exact rfl) (by exact rfl) ?_; intro b69)
            refine so ?_
            refine TS.back ?_
            refine TS.ways [8] (by kernel_rfl) rfl zq18 ⟨⟨_, rfl, ?_⟩, trivial⟩
            (refine T.appendP (lv := lv3) Wanted.none rfl rfl rfl j2 (Src.cells (m := 1) (ys := encT (valO c lb m k)) (.own zq2) rfl rfl) (one_encT _) (by omega) zq1 ?_; intro v70 lv70 hv70 _; obtain ⟨ad70, cap70, rfl⟩ := hv70.val)
            refine so ?_
            refine TS.back ?_
            refine TS.take 9 rfl (by kernel_rfl) (by kernel_rfl) (by kernel_rfl) (by kernel_rfl) (PV.fieldAddr rfl) Wanted.none rfl rfl ?_
            refine TS.ways [10] (by kernel_rfl) rfl zq18 ⟨⟨_, rfl, ?_⟩, trivial⟩
            refine T.store1 Wanted.none rfl rfl rfl zq14 zq13 ?_
            refine so ?_
            refine TS.back ?_
            refine TS.done (by kernel_rfl) (by kernel_rfl) ?_
            refine T.blkEnd ?_
            refine sr ?_
            refine sv (PV.add rfl rfl (by omega)) ?_
            refine sm ?_
            refine so ?_
            refine T.nextP ⟨j + 1, _, lv70⟩ ⟨by dsimp only; omega, ?_⟩ (by dsimp only; omega) zq8 (by repeat (first | exact Sel.refl _ | exact Sel.nil | (refine Sel.cons zq1 ?_) | (refine Sel.app zq1 ?_) | exact Sel.one zq1)) rfl
            dsimp only
            rw [hsn, StV, List.flatMap_append]
            simpa using hv70
          · have hjl : j = ks.length := by omega
            have htl : (valsO c lb ks m).take j = valsO c lb ks m := List.take_of_length_le (by unfold valsO; rw [List.length_map]; omega)
            rw [htl] at j2
            refine sq ?_
            refine sr ?_
            refine sv (PV.lss rfl rfl) ?_
            refine so ?_
            refine sq ?_
            refine sd rfl (by omega) ?_
            refine T.exit rfl ?_
            refine T.freezeP (lv := lv3) j2 zq1 ?_
            intro H4 h4 hs3
            have hvl : (valsO c lb ks m).length = ks.length := by unfold valsO; rw [List.length_map]
            have hs3 : StL H4 (.slice ad3 j cap3) (valsO c lb ks m) := by unfold StL; rw [hvl, ← hjl]; exact hs3
            have hrow : KrOk H4 ks.length ⟨⟨m.b, m.e, .slice ad53 m.ls.length cap53, m.ls⟩, (i : Int), .slice ad3 j cap3, valsO c lb ks m⟩ := ⟨hm53.mono h4, hs3, hvl⟩
            refine sr ?_
            refine sm ?_
            refine sv (PV.loadAll rfl zq0 (by exact rfl)) ?_
            (refine T.buildSlice Wanted.none rfl rfl zq11 (by exact rfl) (by exact rfl) ?_; intro b75)
            (refine T.appendP (lv := lv) Wanted.none rfl rfl rfl g3 (Src.cells (m := 1) (ys := encKr ⟨⟨m.b, m.e, .slice ad53 m.ls.length cap53, m.ls⟩, (i : Int), .slice ad3 j cap3, valsO c lb ks m⟩) (.own zq2) rfl rfl) (one_encKr hrow) (by omega) zq1 ?_; intro v76 lv76 hv76 _; obtain ⟨ad76, cap76, rfl⟩ := hv76.val)
            refine sa ?_
            refine so ?_
            refine T.blkEnd ?_
            refine sr ?_
            refine sv (PV.add rfl rfl (by omega)) ?_
            refine sm ?_
            refine so ?_
            refine T.nextP ⟨i + 1, H4, _, lv76, R ++ [⟨⟨m.b, m.e, .slice ad53 m.ls.length cap53, m.ls⟩, (i : Int), .slice ad3 j cap3, valsO c lb ks m⟩]⟩ ⟨by dsimp only; omega, (g2.trans h53).trans h4, RowV.snoc hv76, fun r hr => ?_, ?_, ?_⟩ (by dsimp only; omega) zq8 (by repeat (first | exact Sel.refl _ | exact Sel.nil | (refine Sel.cons zq1 ?_) | (refine Sel.app zq1 ?_) | exact Sel.one zq1)) rfl
            · rcases List.mem_append.1 hr with hr | hr
              · exact (g4 r hr).mono (h53.trans h4)
              · rw [List.mem_singleton] at hr; subst hr; exact hrow
            · dsimp only
              rw [List.map_append, g5, List.take_add_one, hix, List.map_append]
              rfl
            · dsimp only
              rw [htk]; exact hfit
        · have hml2 : ¬ ((m.ls.length : Nat) : Int) = (lb.length : Nat) := by omega
          have h8 := hne (by unfold fitsM; rw [hf, decide_eq_false hml]; rfl)
          refine sq ?_
          refine sr ?_
          refine sv (PV.lss rfl rfl) ?_
          refine so ?_
          refine sq ?_
          refine sc rfl (by omega) ?_
          refine T.skip ?_
          refine sq ?_
          refine T.block ?_
          refine sq ?_
          refine sr ?_
          refine sm ?_
          refine sv (PV.indexAddr rfl rfl (by omega)) ?_
          refine sv (PV.loadSubAll rfl (by assumption) (by exact rfl)) ?_
          refine sy fun b13 => ?_
          refine sa ?_
          refine T.storeA Wanted.none rfl rfl zq8 (by exact rfl) zq14 zq13 ?_
          refine so ?_
          refine sq ?_
          refine sq ?_
          refine sr ?_
          refine sv (PV.loadAll rfl zq0 (by exact rfl)) ?_
          refine sv (PV.loadAll rfl zq0 (by exact rfl)) ?_
          refine T.callV Wanted.none rfl rfl (hfi) ?_
          refine sm ?_
          refine sv (PV.extract rfl rfl) ?_
          refine sv (PV.extract rfl rfl) ?_
          refine sy fun b14 => ?_
          refine T.storeA Wanted.none rfl rfl zq8 (by exact rfl) zq14 zq13 ?_
          refine sa ?_
          refine so ?_
          refine sq ?_
          refine sr ?_
          refine sm ?_
          refine sv (PV.not rfl) ?_
          refine sm ?_
          refine gf ?_
          refine gl ?_
          refine gv (PV.lenSl rfl) ?_
          refine gm ?_
          refine gv (PV.lenSl rfl) ?_
          refine gv (PV.neq rfl rfl) ?_
          refine sF ?_
          refine so ?_
          refine sc rfl (by omega) ?_
          refine sq ?_
          refine sr ?_
          refine sa ?_
          refine sa ?_
          refine so ?_
          exact T.retF (Lv.fin (RV.tmp2 rfl rfl rfl) ⟨_, [], by rw [h8], ⟨SlR.empty, by simp⟩, by rw [h8]; intro h; omega, fun _ => rfl⟩)
    · rw [List.take_of_length_le (by omega)] at g5 g6
      have h0 : srtE c lb ks L = 0 := by unfold srtE; rw [if_neg (by simpa using he), if_pos g6]
      have hsr := rows_sorted g5
      refine sq ?_
      refine sr ?_
      refine sv (PV.lss rfl rfl) ?_
      refine so ?_
      refine sq ?_
      refine sd rfl (by omega) ?_
      refine T.exit rfl ?_
      refine T.freezeB (b := b7) zq1 ?_
      intro H3 h3 hb7
      have hok3 : ∀ r ∈ R, KrOk H3 ks.length r := fun r hr => (g4 r hr).mono h3
      have hst := sortStable_fn R ks.length (.slice adv R.length capv) lv H3 g3 hok3 (by omega) (cmpR ks) 37 [.pointer (some ⟨b7, 0, none⟩)]
        (fun x hx y hy => cmpR_fn ks x y b7 ak ck H3 (hok3 x hx) (hok3 y hy) (hk.mono (g2.trans h3)) hkl hb7)
      refine sq ?_
      refine sr ?_
      refine sm ?_
      refine sv (PV.makeFunc rfl) ?_
      (refine T.callW Wanted.none rfl rfl hst zq1 ?_; rintro _ H9 lv1 _ ⟨rfl, rfl, h1⟩)
      refine so ?_
      refine T.freezeP (lv := lv1) h1 zq1 ?_
      intro H5 h5 hs5
      obtain ⟨S, hS⟩ : ∃ S, S = sortK (fun a b => decide (cmpR ks a b < 0)) R := ⟨_, rfl⟩
      have hSl : S.length = R.length := by rw [hS, sortK_length]
      have hSok : ∀ r ∈ S, KrOk H5 ks.length r := fun r hr => (hok3 r ((sortK_perm _ _).mem_iff.1 (hS ▸ hr))).mono h5
      rw [← hS] at hs5 hsr
      rw [← hSl] at hs5 ⊢
      refine sq ?_
      refine sr ?_
      refine sa ?_
      refine so ?_
      refine sq ?_
      refine sq ?_
      refine sr ?_
      refine sm ?_
      refine sv (PV.lenSl rfl) ?_
      refine sm ?_
      refine so ?_
      refine T.block ?_
      refine T.loopK [(82, Value.int IntKind.i64 (↑S.length : Int)), (81, Value.slice adv S.length capv)] zq8 (γ := SuG) (fun g => g.j ≤ S.length ∧ RowV 24 encM 3 g.v g.lv ((S.take g.j).map (·.m))) (fun g => [(83, .int .i64 (g.j : Int)), (19, g.v)]) (fun g => g.lv) (fun _ => H5) (fun g => S.length - g.j) ⟨0, .slice none 0 0, []⟩ ⟨by simp, Vec.nil _ _⟩ zq8 (by repeat (first | exact Sel.refl _ | exact Sel.nil | (refine Sel.cons zq1 ?_) | (refine Sel.app zq1 ?_) | exact Sel.one zq1)) rfl ?_
      rintro ⟨j, v3, lv3⟩ ⟨j1, j2⟩
      dsimp only at j1 j2 ⊢
      obtain ⟨ad3, cap3, rfl⟩ := j2.val
      by_cases hj : j < S.length
      · obtain ⟨b5, off5, r, rfl, hrx, hsubr⟩ := RowL.get encKr_len hs5 hj
        have hrok := hSok r (List.mem_of_getElem? hrx)
        obtain ⟨ar, cr, hrv⟩ := hrok.1.1.len
        obtain ⟨ar2, cr2, hrk⟩ := hrok.2.1.len
        unfold encKr at hsubr
        rw [hrv, hrk] at hsubr
        have hmE : encM r.m = [.int .i64 r.m.b, .int .i64 r.m.e, .slice ar r.m.ls.length cr] := by unfold encM; rw [hrv]
        have hone : ∀ v ∈ ([.int .i64 r.m.b, .int .i64 r.m.e, .slice ar r.m.ls.length cr] : List Value), v.oneCell' = true := by
          intro v hv
          simp only [List.mem_cons, List.not_mem_nil, or_false] at hv
          rcases hv with rfl | rfl | rfl <;> rfl
        have hsn : (S.take (j + 1)).map (·.m) = (S.take j).map (·.m) ++ [r.m] := by rw [List.take_add_one, hrx, List.map_append]; rfl
        refine sq ?_
        refine sr ?_
        refine sv (PV.lss rfl rfl) ?_
        refine so ?_
        refine sq ?_
        refine sc rfl (by omega) ?_
        refine T.skip ?_
        refine sq ?_
        refine T.block ?_
        refine sq ?_
        refine sr ?_
        refine sv (PV.indexAddr rfl rfl (by omega)) ?_
        refine sv (PV.loadSubAll rfl (by assumption) (by exact rfl)) ?_
        refine sy fun b21 => ?_
        refine T.storeA Wanted.none rfl rfl zq8 (by exact rfl) zq14 zq13 ?_
        refine so ?_
        refine sr ?_
        refine sm ?_
        refine sf ?_
        refine sv (PV.loadAgg (vs := [.int .i64 r.m.b, .int .i64 r.m.e, .slice ar r.m.ls.length cr]) rfl zq0 (by exact rfl) (by exact rfl)) ?_
        (refine T.buildSlice Wanted.none rfl rfl zq11 (by exact rfl) (by exact rfl) ?_; intro b90)
        (refine T.appendP (lv := lv3) Wanted.none rfl rfl rfl j2 (Src.cells (m := 1) (ys := [.int .i64 r.m.b, .int .i64 r.m.e, .slice ar r.m.ls.length cr]) (.own zq2) rfl rfl) hone (by simp; omega) zq1 ?_; intro v91 lv91 hv91 _; obtain ⟨ad91, cap91, rfl⟩ := hv91.val)
        refine sa ?_
        refine so ?_
        refine T.blkEnd ?_
        refine sr ?_
        refine sv (PV.add rfl rfl (by omega)) ?_
        refine sm ?_
        refine so ?_
        refine T.nextP ⟨j + 1, _, lv91⟩ ⟨by dsimp only; omega, ?_⟩ (by dsimp only; omega) zq8 (by repeat (first | exact Sel.refl _ | exact Sel.nil | (refine Sel.cons zq1 ?_) | (refine Sel.app zq1 ?_) | exact Sel.one zq1)) rfl
        dsimp only
        rw [hsn]
        rw [← hmE] at hv91
        exact MtV.snoc' hv91
      · obtain rfl : j = S.length := by omega
        rw [List.take_length] at j2 ⊢
        refine sq ?_
        refine sr ?_
        refine sv (PV.lss rfl rfl) ?_
        refine so ?_
        refine sq ?_
        refine sd rfl (by omega) ?_
        refine T.exit rfl ?_
        refine sq ?_
        refine sr ?_
        refine sm ?_
        refine sa ?_
        refine sa ?_
        refine so ?_
        refine T.retF (Vec.freezeLv (l' := []) j2 (by rw [List.append_nil]; exact zq4) fun H' hleF hsl => Lv.fin (RV.tmp2 rfl rfl rfl) ⟨_, S.map (·.m), by rw [h0], ⟨hsl, fun m hm => ?_⟩, fun _ => ?_, fun h => absurd h0 h⟩)
        · obtain ⟨r, hr, rfl⟩ := List.mem_map.1 hm
          exact (hSok r hr).1.mono hleF
        · rw [List.map_map]; exact hsr
  · have h8 : srtE c lb ks L = keyErr c lb ks := by unfold srtE; rw [if_pos he]
    refine sq ?_
    refine sr ?_
    (refine T.box Wanted.none rfl rfl zq15 ?_; intro b4)
    (refine T.box Wanted.none rfl rfl zq15 ?_; intro b7)
    refine sa ?_
    refine sa ?_
    refine so ?_
    refine sq ?_
    refine sq ?_
    refine sr ?_
    refine sv (PV.loadAll rfl zq0 (by exact rfl)) ?_
    refine sm ?_
    refine sl ?_
    refine T.callV Wanted.none rfl rfl (hck) ?_
    refine sa ?_
    refine so ?_
    refine sq ?_
    refine sr ?_
    refine sm ?_
    refine sv (PV.neq rfl rfl) ?_
    refine so ?_
    refine sc rfl (by omega) ?_
    refine sq ?_
    refine sr ?_
    refine sm ?_
    refine sa ?_
    refine sa ?_
    refine so ?_
    exact T.retF (Lv.fin (RV.tmp2 rfl rfl rfl) ⟨_, [], by rw [h8], ⟨SlR.empty, by simp⟩, by rw [h8]; intro h; exact absurd h he, fun _ => rfl⟩)
end Go.Proofs.YtlklcjpmfjmenaaGreatDoor
