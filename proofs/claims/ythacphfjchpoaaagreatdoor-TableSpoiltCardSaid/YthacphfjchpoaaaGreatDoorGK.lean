/- table: the key of a match: the program.
   table: the key of a match: the reference; keys.
   table: the keys of a match: the program, the reference. -/
import Derived.Test.YthacphfjchpoaaaGreatDoorGD
import Derived.Test.YthacphfjchpoaaaGreatDoorGE
import Derived.Test.YthacphfjchpoaaaGreatDoorG9
namespace Go.Proofs.YthacphfjchpoaaaGreatDoor
open Go.RowKit

structure Gp where
  k : Int
  at_ : Int
  off : Int
  lb : ByteArray
  nm : ByteArray
  rg : ByteArray
def gpV (g : Gp) : Value := .agg #[.int .i64 g.k, .int .i64 g.at_, .int .i64 g.off, .string g.lb, .string g.nm, .string g.rg]
def encGp (g : Gp) : List Value := [.int .i64 g.k, .int .i64 g.at_, .int .i64 g.off, .string g.lb, .string g.nm, .string g.rg]
theorem encGp_len (g : Gp) : (encGp g).length = 6 := rfl
abbrev GpL (H : Hp) (v : Value) (l : List Gp) : Prop := SlR H 6 v l.length (l.flatMap encGp)
/-- the value of the first pair of a name -/
def ofP (l : List (ByteArray × ByteArray)) (nm : ByteArray) : ByteArray := ((l.find? fun p => decide (p.1 = nm)).map (·.2)).getD (bs [])
theorem ofP_hit {l : List (ByteArray × ByteArray)} {nm : ByteArray} {i : Nat} {p : ByteArray × ByteArray} (h : (l.take i).any (fun p => decide (p.1 = nm)) = false) (hx : l[i]? = some p) (hp : p.1 = nm) : ofP l nm = p.2 := by
  unfold ofP
  rw [find_hit h hx (decide_eq_true hp)]
  rfl
theorem ofP_miss {l : List (ByteArray × ByteArray)} {nm : ByteArray} (h : l.any (fun p => decide (p.1 = nm)) = false) : ofP l nm = bs [] := by
  unfold ofP
  rw [find_miss h]
  rfl
def kyG (g : Gp) : Ky := ⟨g.at_, g.off, g.lb, g.nm, false, false, false⟩
def rgKs (c : Cp) (m : Mt) (g : Gp) : List (ByteArray × ByteArray) := ((c.rg[(lastI c.rg g.rg (m.b, m.e)).toNat]?).map (·.ks)).getD []
/-- the key of a match that fits into the text t -/
def keyO (c : Cp) (lb : List ByteArray) (m : Mt) (t : Rg) (g : Gp) : ByteArray :=
  if g.k = 1 then valO c lb m (kyG g) else if g.k = 2 then ofP t.ks g.nm else if g.k = 3 then (if lastI c.rg g.rg (m.b, m.e) < 0 then bs [] else ofP (rgKs c m g) g.nm) else if g.k = 4 then itoaB (m.e - m.b) else bs []
theorem of1_fn (p : ByteArray × ByteArray) (nm : ByteArray) (b : Nat) (H : Hp) (hb : H b = some (.cells #[.string nm] 9 (0, 0))) :
    Fn Tryz.prog 98 #[.agg #[.string p.1, .string p.2], .pointer (some ⟨b, 0, none⟩)] H (fun u _ => u = .bool (decide (p.1 = nm))) := by
  refine Fn.of_T (vs := [.agg #[.string p.1, .string p.2], .pointer (some ⟨b, 0, none⟩)]) Tryz.func98 rfl rfl fun w => ?_; refine zs3 ?_; (refine T.box Wanted.none rfl rfl zq15 ?_; intro b2); refine yq23 ?_; refine yq5 ?_; refine sl ?_; refine sv (PV.seql rfl rfl) ?_; refine yq0 ?_
  exact T.retF (Lv.fin (RV.tmp rfl rfl) rfl)
theorem indexFunc_pr (l : List (ByteArray × ByteArray)) (v : Value) (H : Hp) (hv : PrL H v l) (g : (ByteArray × ByteArray) → Bool) (gf : FuncId) [hE : Ent Tryz.prog gf] (cap : List Value) (hg : ∀ x ∈ l, Fn Tryz.prog gf ((.agg #[.string x.1, .string x.2]) :: cap).toArray H (fun u _ => u = .bool (g x))) :
    Fn Tryz.prog 97 #[v, .func (.func gf) #[] cap.toArray] H (fun u _ => u = .int .i64 (ixI g l)) := by
  obtain ⟨hv, hlb, _⟩ := hv
  obtain ⟨ad, capv, rfl⟩ := hv.len
  refine Fn.of_T (vs := [.slice ad l.length capv, .func (.func gf) #[] cap.toArray]) Tryz.func97 rfl rfl fun w => ?_; refine yq25 ?_; refine yq112 ?_; refine T.loopC [(7, Value.int IntKind.i64 (↑l.length : Int)), (0, Value.slice ad l.length capv), (1, Value.func (Fn.func gf) #[] cap.toArray)] zq8 8 l.length (fun i => (l.take i).any g = false) rfl rfl ?_
  rintro i ⟨hi0, hi1⟩
  by_cases hi : i < l.length
  · obtain ⟨b, off, x, rfl, hix, hsub⟩ := RowL.get encPr_len hv hi
    have hgf := hg x (List.mem_of_getElem? hix)
    unfold encPr at hsub
    have hst : (l.take (i + 1)).any g = g x := by rw [List.take_add_one, hix, List.any_append, hi1]; simp
    refine yq87 ?_; refine yq56 ?_; refine yq162 ?_; refine yq1 ?_; refine T.callF (cap := cap) Wanted.none rfl rfl rfl (by exact hgf) ?_
    rintro _ H' hle rfl
    refine T.forget hle ?_ (Hp.le.refl _)
    cases hb : g x
    · refine yq92 ?_; refine yq61 ?_
      exact T.nextC hi (hst.trans hb) rfl zq8 (by repeat (first | exact Sel.refl _ | exact Sel.nil | (refine Sel.cons zq1 ?_) | (refine Sel.app zq1 ?_) | exact Sel.one zq1))
    · refine yq36 ?_; refine yq140 ?_
      refine T.retF (Lv.fin (RV.tmp rfl rfl) ?_)
      rw [ixI_hit hi1 hix hb]
  · rw [List.take_of_length_le (by omega)] at hi1
    refine yq195 ?_
    refine T.retF (Lv.fin (RV.tmp rfl rfl) ?_)
    rw [ixI_miss hi1]
theorem tableOf_fn (l : List (ByteArray × ByteArray)) (v : Value) (nm : ByteArray) (H : Hp) (hv : PrL H v l) :
    Fn Tryz.prog 72 #[v, .string nm] H (fun u _ => u = .string (ofP l nm)) := by
  obtain ⟨ad, cap, rfl⟩ := hv.1.len
  refine Fn.of_T (vs := [.slice ad l.length cap, .string nm]) Tryz.func72 rfl rfl fun w => ?_; refine zs3 ?_; (refine T.box Wanted.none rfl rfl zq15 ?_; intro b3); refine yq0 ?_; refine T.freezeB (b := b3) zq1 ?_
  intro H1 hle1 hb3
  have hv1 := hv.mono hle1
  have hix := indexFunc_pr l (.slice ad l.length cap) H1 hv1 (fun a => decide (a.1 = nm)) 98 [.pointer (some ⟨b3, 0, none⟩)] (fun a _ => of1_fn a nm b3 H1 hb3)
  rcases ixI_cases (fun a : ByteArray × ByteArray => decide (a.1 = nm)) l with ⟨h1, h2⟩ | ⟨i, x, h1, h2, h3, h4⟩
  · rw [h1] at hix
    refine yq14 ?_; refine sv (PV.makeFunc rfl) ?_; refine T.callV Wanted.none rfl rfl (hix) ?_; refine yq56 ?_; refine sv (PV.geq rfl rfl) ?_; refine yq92 ?_; refine yq25 ?_
    exact T.retF (Lv.fin (RV.tmp rfl rfl) (by rw [ofP_miss h2]; rfl))
  · rw [h1] at hix
    have hil := (List.getElem?_eq_some_iff.1 h2).1
    obtain ⟨b, off, y, rfl, hiy, hsub⟩ := RowL.get encPr_len hv1.1 hil
    rw [h2] at hiy
    obtain rfl := Option.some.inj hiy
    unfold encPr at hsub
    have h0 : (0 : Int) ≤ (i : Int) := by omega
    refine yq14 ?_; refine sv (PV.makeFunc rfl) ?_; refine T.callV Wanted.none rfl rfl (hix) ?_; refine yq56 ?_; refine sv (PV.geq rfl rfl) ?_; refine yq36 ?_; refine yq137 ?_; refine yq75 ?_; refine sv (PV.loadSub rfl (by assumption) rfl) ?_; refine yq0 ?_
    exact T.retF (Lv.fin (RV.tmp rfl rfl) (by rw [ofP_hit h4 h2 (of_decide_eq_true h3)]))
theorem lastAt {c : Cp} {H : Hp} (hr : RgL H c.vr c.rg) {m : Mt} {g : Gp} (h : ¬ lastI c.rg g.rg (m.b, m.e) < 0) : ∃ (k : Nat) (r : Rg), lastI c.rg g.rg (m.b, m.e) = (k : Int) ∧ c.rg[k]? = some r ∧ rgKs c m g = r.ks ∧ RgOk H r := by
  have h1 := lastI_range c.rg g.rg (m.b, m.e)
  obtain ⟨k, hk⟩ : ∃ k : Nat, lastI c.rg g.rg (m.b, m.e) = (k : Int) := ⟨(lastI c.rg g.rg (m.b, m.e)).toNat, by omega⟩
  obtain ⟨r, hr2⟩ : ∃ r, c.rg[k]? = some r := ⟨_, List.getElem?_eq_getElem (by omega)⟩
  refine ⟨k, r, hk, hr2, ?_, hr.2 r (List.mem_of_getElem? hr2)⟩
  unfold rgKs
  rw [hk, Int.toNat_natCast, hr2]; rfl
set_option maxHeartbeats 2000000 in
theorem key_in (c : Cp) (lb : List ByteArray) (vl : Value) (m : Mt) (t : Rg) (g : Gp) (H : Hp) (hT : PowT H) (hc : CpL H c) (hw : CpW c) (hlb : StL H vl lb) (hm : LabOk H m) (hl : m.ls.length ≤ 1000) (hf : fitO c m = some t) :
    Fn Tryz.prog 40 #[cpV c, vl, mtV m, rgV t, gpV g] H (fun u _ => u = .string (keyO c lb m t g)) := by
  have hva := value_in c lb vl m (kyG g) H hc hw hlb hm hl
  have hla := last_in c g.rg (m.b, m.e) H hc
  have hfp := fitP hw hf
  have hmem := (fitO_some hw hf).1
  have hrg := hc.x.2 t hmem
  have hof := tableOf_fn t.ks t.kv g.nm H hrg
  have hlt := hc.lt
  have hlr := hc.lr
  have hit := itoa_fn (m.e - m.b) H hT (by have := hfp.t0; have := hfp.tb; have := hfp.et; have := hfp.tn; have := hfp.be; omega)
  have hb := hfp.be
  have h0 := hfp.t0
  have h1 := hfp.tb
  have h2 := hfp.et
  have h3 := hfp.tn
  obtain ⟨al, cl, hmv⟩ := hm.1.len
  obtain ⟨ab, cb, rfl⟩ := hlb.len
  obtain ⟨am, cm, hkv⟩ := hrg.1.len
  rw [hkv] at hof
  unfold cpV mtV kyV kyG at hva
  unfold cpV spV at hla
  dsimp only at hva hla
  have hrr := hc.r
  obtain ⟨ar, cr, hvr⟩ := hrr.1.len
  rw [hvr] at hrr
  unfold cpV mtV rgV gpV
  rw [hmv, hvr] at hva
  rw [hvr] at hla
  rw [hmv, hkv, hvr]
  refine Fn.of_T (vs := [.agg #[c.va, c.vt, c.vx, .slice ar c.rg.length cr, c.vn, c.vh, c.vs], .slice ab lb.length cb, .agg #[.int .i64 m.b, .int .i64 m.e, .slice al m.ls.length cl], .agg #[.string t.ty, .int .i64 t.b, .int .i64 t.e, .slice am t.ks.length cm], .agg #[.int .i64 g.k, .int .i64 g.at_, .int .i64 g.off, .string g.lb, .string g.nm, .string g.rg]]) Tryz.func40 rfl rfl fun w => ?_
  by_cases k1 : g.k = 1
  · refine zs3 ?_; (refine T.box Wanted.none rfl rfl zq15 ?_; intro b5); (refine T.box Wanted.none rfl rfl zq15 ?_; intro b7); (refine T.box Wanted.none rfl rfl zq15 ?_; intro b8); (refine T.box Wanted.none rfl rfl zq15 ?_; intro b9); refine yq0 ?_; refine yq186 ?_; refine yq113 ?_; refine yq52 ?_; refine yq138 ?_; refine yq148 ?_; refine yq148 ?_; refine sv (PV.build rfl zq12) ?_; refine T.callV Wanted.none rfl rfl (hva) ?_; refine yq0 ?_
    exact T.retF (Lv.fin (RV.tmp rfl rfl) (by unfold keyO kyG; rw [if_pos k1]))
  by_cases k2 : g.k = 2
  · refine zs3 ?_; (refine T.box Wanted.none rfl rfl zq15 ?_; intro b5); (refine T.box Wanted.none rfl rfl zq15 ?_; intro b7); (refine T.box Wanted.none rfl rfl zq15 ?_; intro b8); (refine T.box Wanted.none rfl rfl zq15 ?_; intro b9); refine yq0 ?_; refine yq186 ?_; refine yq53 ?_; refine yq113 ?_; refine yq41 ?_; refine yq5 ?_; refine T.callV Wanted.none rfl rfl (hof) ?_; refine yq0 ?_
    exact T.retF (Lv.fin (RV.tmp rfl rfl) (by unfold keyO; rw [if_neg k1, if_pos k2]))
  by_cases k3 : g.k = 3
  · by_cases hk : lastI c.rg g.rg (m.b, m.e) < 0
    · refine zs3 ?_; (refine T.box Wanted.none rfl rfl zq15 ?_; intro b5); (refine T.box Wanted.none rfl rfl zq15 ?_; intro b7); (refine T.box Wanted.none rfl rfl zq15 ?_; intro b8); (refine T.box Wanted.none rfl rfl zq15 ?_; intro b9); refine yq0 ?_; refine yq186 ?_; refine yq53 ?_; refine yq53 ?_; refine yq113 ?_; refine yq52 ?_; refine yq148 ?_; refine yq5 ?_; refine sv (PV.build rfl zq12) ?_; refine T.callV Wanted.none rfl rfl (hla) ?_; refine yq23 ?_
      refine sm ?_; refine sv (PV.geq rfl rfl) ?_; refine yq88 ?_; refine T.blkEnd ?_; refine yq25 ?_
      exact T.retF (Lv.fin (RV.tmp rfl rfl) (by unfold keyO; rw [if_neg k1, if_neg k2, if_pos k3, if_pos hk]; rfl))
    · obtain ⟨k, r, e1, e2, e3, e4⟩ := lastAt hc.r hk
      have hko : keyO c lb m t g = ofP r.ks g.nm := by unfold keyO; rw [if_neg k1, if_neg k2, if_pos k3, if_neg hk, e3]
      rw [hko]
      rw [e1] at hla
      have hki := (List.getElem?_eq_some_iff.1 e2).1
      obtain ⟨bx, off, x, rfl, hix, hsub⟩ := RowL.get encRg_len hrr.1 hki
      rw [e2] at hix
      obtain rfl := Option.some.inj hix
      have hor := tableOf_fn r.ks r.kv g.nm H e4
      obtain ⟨az, cz, hrv⟩ := e4.1.len
      rw [hrv] at hor
      unfold encRg at hsub
      rw [hrv] at hsub
      have hk9 : (0 : Int) ≤ (k : Int) := by omega
      refine zs3 ?_; (refine T.box Wanted.none rfl rfl zq15 ?_; intro b5); (refine T.box Wanted.none rfl rfl zq15 ?_; intro b7); (refine T.box Wanted.none rfl rfl zq15 ?_; intro b8); (refine T.box Wanted.none rfl rfl zq15 ?_; intro b9); refine yq0 ?_; refine yq186 ?_; refine yq53 ?_; refine yq53 ?_; refine yq113 ?_; refine yq52 ?_; refine yq148 ?_; refine yq5 ?_; refine sv (PV.build rfl zq12) ?_; refine T.callV Wanted.none rfl rfl (hla) ?_; refine yq23 ?_
      refine sm ?_; refine sv (PV.geq rfl rfl) ?_; refine yq36 ?_; refine sq ?_; refine yq91 ?_; refine yq11 ?_; refine yq21 ?_; refine yq6 ?_; refine TQ.callV Wanted.none rfl rfl (hor) ?_; refine yq188 ?_
      exact T.retF (Lv.fin (RV.tmp rfl rfl) rfl)
  by_cases k4 : g.k = 4
  · refine zs3 ?_; (refine T.box Wanted.none rfl rfl zq15 ?_; intro b5); (refine T.box Wanted.none rfl rfl zq15 ?_; intro b7); (refine T.box Wanted.none rfl rfl zq15 ?_; intro b8); (refine T.box Wanted.none rfl rfl zq15 ?_; intro b9); refine yq0 ?_; refine yq186 ?_; refine yq53 ?_; refine yq53 ?_; refine yq53 ?_; refine yq113 ?_; refine yq41 ?_; refine yq5 ?_; refine sv (PV.sub rfl rfl (by omega)) ?_; refine T.callV Wanted.none rfl rfl (hit) ?_
    refine yq0 ?_
    exact T.retF (Lv.fin (RV.tmp rfl rfl) (by unfold keyO; rw [if_neg k1, if_neg k2, if_neg k3, if_pos k4]))
  refine zs3 ?_; (refine T.box Wanted.none rfl rfl zq15 ?_; intro b5); (refine T.box Wanted.none rfl rfl zq15 ?_; intro b7); (refine T.box Wanted.none rfl rfl zq15 ?_; intro b8); (refine T.box Wanted.none rfl rfl zq15 ?_; intro b9); refine yq0 ?_; refine yq186 ?_; refine yq53 ?_; refine yq53 ?_; refine yq53 ?_; refine yq44 ?_; refine yq22 ?_; refine T.blkEnd ?_; refine yq25 ?_
  exact T.retF (Lv.fin (RV.tmp rfl rfl) (by unfold keyO; rw [if_neg k1, if_neg k2, if_neg k3, if_neg k4]; rfl))
end Go.Proofs.YthacphfjchpoaaaGreatDoor
namespace Go.Proofs.YthacphfjchpoaaaGreatDoor
open Go.RowKit

theorem fit_find {c : Cp} {m : Mt} {t : Rg} (hf : fitO c m = some t) : c.tx.find? (inT m.b) = some t := by
  unfold fitO at hf
  cases hfd : c.tx.find? (inT m.b) with
  | none => rw [hfd] at hf; cases hf
  | some t' =>
    rw [hfd] at hf
    dsimp only at hf
    split at hf
    · exact hf
    · cases hf
set_option maxHeartbeats 2000000 in
theorem key_ref (c : Cp) (lb : List ByteArray) (vl : Value) (m : Mt) (t : Rg) (g : Gp) (H : Hp) (hc : CpL H c) (hw : CpW c) (hlb : StL H vl lb) (hm : LabOk H m) (hl : m.ls.length ≤ 1000) (hf : fitO c m = some t) :
    Fn Tryz.prog 41 #[cpV c, vl, mtV m, gpV g] H (fun u _ => u = .string (keyO c lb m t g)) := by
  have hva := value_ref c lb vl m (kyG g) H hc hw hlb hm hl
  have hla := last_ref c g.rg (m.b, m.e) H hc
  have hlr := lastI_range c.rg g.rg (m.b, m.e)
  have hxt := textOf_ref c m.b H hc
  rw [fit_find hf] at hxt
  change Fn _ _ _ _ (fun u _ => u = .tuple #[rgV t, .bool true]) at hxt
  have hfp := fitP hw hf
  have hmem := (fitO_some hw hf).1
  have hrg := hc.x.2 t hmem
  have hlt := hc.lt
  have hlr2 := hc.lr
  have hb := hfp.be
  have h0 := hfp.t0
  have h1 := hfp.tb
  have h2 := hfp.et
  have h3 := hfp.tn
  have hit := dec_fn (m.e - m.b) H (by omega)
  obtain ⟨al, cl, hmv⟩ := hm.1.len
  obtain ⟨ab, cb, rfl⟩ := hlb.len
  obtain ⟨am, cm, hkv⟩ := hrg.1.len
  have hrk := hrg.1
  have hrl := hrg.2.1
  rw [hkv] at hrk
  unfold cpV mtV kyV kyG at hva
  unfold cpV spV at hla
  unfold cpV rgV at hxt
  dsimp only at hva hla hxt
  have hrr := hc.r
  obtain ⟨ar, cr, hvr⟩ := hrr.1.len
  rw [hvr] at hrr
  unfold cpV mtV gpV
  rw [hmv, hvr] at hva
  rw [hvr] at hla
  rw [hvr, hkv] at hxt
  rw [hmv, hvr]
  refine Fn.of_T (vs := [.agg #[c.va, c.vt, c.vx, .slice ar c.rg.length cr, c.vn, c.vh, c.vs], .slice ab lb.length cb, .agg #[.int .i64 m.b, .int .i64 m.e, .slice al m.ls.length cl], .agg #[.int .i64 g.k, .int .i64 g.at_, .int .i64 g.off, .string g.lb, .string g.nm, .string g.rg]]) Tryz.func41 rfl rfl fun w => ?_
  by_cases k1 : g.k = 1
  · refine zs3 ?_; (refine T.box Wanted.none rfl rfl zq15 ?_; intro b4); (refine T.box Wanted.none rfl rfl zq15 ?_; intro b6); (refine T.box Wanted.none rfl rfl zq15 ?_; intro b7); refine yq95 ?_; refine yq5 ?_; refine T.callV Wanted.none rfl rfl (hxt) ?_; refine yq146 ?_; refine sy fun b9 => ?_; refine yq98 ?_; refine yq5 ?_; refine yq0 ?_; refine yq186 ?_; refine yq113 ?_; refine yq52 ?_; refine yq138 ?_; refine yq148 ?_
    refine yq148 ?_; refine sv (PV.build rfl zq12) ?_; refine T.callV Wanted.none rfl rfl (hva) ?_; refine yq0 ?_
    exact T.retF (Lv.fin (RV.tmp rfl rfl) (by unfold keyO kyG; rw [if_pos k1]))
  by_cases k4 : g.k = 4
  · refine zs3 ?_; (refine T.box Wanted.none rfl rfl zq15 ?_; intro b4); (refine T.box Wanted.none rfl rfl zq15 ?_; intro b6); (refine T.box Wanted.none rfl rfl zq15 ?_; intro b7); refine yq95 ?_; refine yq5 ?_; refine T.callV Wanted.none rfl rfl (hxt) ?_; refine yq146 ?_; refine sy fun b9 => ?_; refine yq98 ?_; refine yq5 ?_; refine yq0 ?_; refine yq186 ?_; refine yq53 ?_; refine yq113 ?_; refine yq41 ?_
    refine yq5 ?_; refine sv (PV.sub rfl rfl (by omega)) ?_; refine T.callV Wanted.none rfl rfl (hit) ?_; refine yq0 ?_
    exact T.retF (Lv.fin (RV.tmp rfl rfl) (by unfold keyO; rw [if_neg k1, if_neg (by omega), if_neg (by omega), if_pos k4]))
  by_cases k2 : g.k = 2
  · have hko : keyO c lb m t g = ofP t.ks g.nm := by unfold keyO; rw [if_neg k1, if_pos k2]
    rw [hko]
    refine zs3 ?_; (refine T.box Wanted.none rfl rfl zq15 ?_; intro b4); (refine T.box Wanted.none rfl rfl zq15 ?_; intro b6); (refine T.box Wanted.none rfl rfl zq15 ?_; intro b7); refine yq95 ?_; refine yq5 ?_; refine T.callV Wanted.none rfl rfl (hxt) ?_; refine yq146 ?_; refine sy fun b9 => ?_; refine yq98 ?_; refine yq5 ?_; refine yq0 ?_; refine yq186 ?_; refine yq53 ?_; refine yq53 ?_; refine yq12 ?_; refine sa ?_
    refine so ?_; refine sd rfl (by omega) ?_; refine yq44 ?_; refine yq7 ?_; refine T.blkEnd ?_; refine yq112 ?_; refine T.loopC [(71, Value.int IntKind.i64 (↑t.ks.length : Int)), (70, Value.slice am t.ks.length cm), (7, Value.pointer (some { block := b7, off := 0 }))] zq8 72 t.ks.length (fun i => (t.ks.take i).any (fun p => decide (p.1 = g.nm)) = false) rfl rfl ?_
    rintro i ⟨hi0, hi1⟩
    by_cases hi : i < t.ks.length
    · obtain ⟨b, off, x, rfl, hix, hsub⟩ := RowL.get encPr_len hrk hi
      unfold encPr at hsub
      by_cases he : x.1 = g.nm
      · refine yq110 ?_; refine sy fun b14 => ?_; refine yq115 ?_; refine yq5 ?_; refine sv (PV.seql rfl rfl) ?_; refine yq46 ?_; refine yq41 ?_; refine yq0 ?_
        exact T.retF (Lv.fin (RV.tmp rfl rfl) (by rw [ofP_hit hi1 hix he]))
      · refine yq110 ?_; refine sy fun b14 => ?_; refine yq115 ?_; refine yq5 ?_; refine sv (PV.seql rfl rfl) ?_; refine yq88 ?_; refine yq61 ?_
        exact T.nextC hi (ixI_drop hi1 hix (decide_eq_false he)) rfl zq8 (by repeat (first | exact Sel.refl _ | exact Sel.nil | (refine Sel.cons zq1 ?_) | (refine Sel.app zq1 ?_) | exact Sel.one zq1))
    · rw [List.take_of_length_le (by omega)] at hi1
      refine yq195 ?_
      exact T.retF (Lv.fin (RV.tmp rfl rfl) (by rw [ofP_miss hi1]; rfl))
  by_cases k3 : g.k = 3
  · by_cases hk : lastI c.rg g.rg (m.b, m.e) < 0
    · have hk1 : lastI c.rg g.rg (m.b, m.e) = -1 := by omega
      refine zs3 ?_; (refine T.box Wanted.none rfl rfl zq15 ?_; intro b4); (refine T.box Wanted.none rfl rfl zq15 ?_; intro b6); (refine T.box Wanted.none rfl rfl zq15 ?_; intro b7); refine yq95 ?_; refine yq5 ?_; refine T.callV Wanted.none rfl rfl (hxt) ?_; refine yq146 ?_; refine sy fun b9 => ?_; refine yq98 ?_; refine yq5 ?_; refine yq0 ?_; refine yq186 ?_; refine yq53 ?_; refine yq53 ?_; refine yq12 ?_; refine sa ?_
      refine yq46 ?_; refine yq52 ?_; refine yq148 ?_; refine yq5 ?_; refine sv (PV.build rfl zq12) ?_; refine T.callV Wanted.none rfl rfl (hla) ?_; refine yq127 ?_; refine sv (PV.eql rfl rfl) ?_; refine yq46 ?_; refine yq25 ?_
      exact T.retF (Lv.fin (RV.tmp rfl rfl) (by unfold keyO; rw [if_neg k1, if_neg k2, if_pos k3, if_pos hk]; rfl))
    · obtain ⟨k, r, e1, e2, e3, e4⟩ := lastAt hc.r hk
      have hko : keyO c lb m t g = ofP r.ks g.nm := by unfold keyO; rw [if_neg k1, if_neg k2, if_pos k3, if_neg hk, e3]
      rw [hko]
      rw [e1] at hla
      have hki := (List.getElem?_eq_some_iff.1 e2).1
      obtain ⟨bx, off, x, rfl, hix, hsub⟩ := RowL.get encRg_len hrr.1 hki
      rw [e2] at hix
      obtain rfl := Option.some.inj hix
      obtain ⟨az, cz, hrv⟩ := e4.1.len
      have hrk2 := e4.1
      have hrl2 := e4.2.1
      rw [hrv] at hrk2
      unfold encRg at hsub
      rw [hrv] at hsub
      have hk9 : ¬ (k : Int) = -1 := by omega
      refine zs3 ?_; (refine T.box Wanted.none rfl rfl zq15 ?_; intro b4); (refine T.box Wanted.none rfl rfl zq15 ?_; intro b6); (refine T.box Wanted.none rfl rfl zq15 ?_; intro b7); refine yq95 ?_; refine yq5 ?_; refine T.callV Wanted.none rfl rfl (hxt) ?_; refine yq146 ?_; refine sy fun b9 => ?_; refine yq98 ?_; refine yq5 ?_; refine yq0 ?_; refine yq186 ?_; refine yq53 ?_; refine yq53 ?_; refine yq12 ?_; refine sa ?_
      refine yq46 ?_; refine yq52 ?_; refine yq148 ?_; refine yq5 ?_; refine sv (PV.build rfl zq12) ?_; refine T.callV Wanted.none rfl rfl (hla) ?_; refine yq127 ?_; refine sv (PV.eql rfl rfl) ?_; refine yq92 ?_; refine sr ?_; refine yq5 ?_; refine sm ?_; refine yq75 ?_; refine sv (PV.loadSub rfl (by assumption) rfl) ?_; refine yq0 ?_; refine T.blkEnd ?_; refine yq112 ?_; refine T.loopC [(71, Value.int IntKind.i64 (↑r.ks.length : Int)), (70, Value.slice az r.ks.length cz), (7, Value.pointer (some { block := b7, off := 0 }))] zq8 72 r.ks.length (fun i => (r.ks.take i).any (fun p => decide (p.1 = g.nm)) = false) rfl rfl ?_
      rintro i ⟨hi0, hi1⟩
      by_cases hi : i < r.ks.length
      · obtain ⟨b, off, x, rfl, hix, hsub⟩ := RowL.get encPr_len hrk2 hi
        unfold encPr at hsub
        by_cases he : x.1 = g.nm
        · refine yq110 ?_; refine sy fun b14 => ?_; refine yq115 ?_; refine yq5 ?_; refine sv (PV.seql rfl rfl) ?_; refine yq46 ?_; refine yq41 ?_; refine yq0 ?_
          exact T.retF (Lv.fin (RV.tmp rfl rfl) (by rw [ofP_hit hi1 hix he]))
        · refine yq110 ?_; refine sy fun b14 => ?_; refine yq115 ?_; refine yq5 ?_; refine sv (PV.seql rfl rfl) ?_; refine yq88 ?_; refine yq61 ?_
          exact T.nextC hi (ixI_drop hi1 hix (decide_eq_false he)) rfl zq8 (by repeat (first | exact Sel.refl _ | exact Sel.nil | (refine Sel.cons zq1 ?_) | (refine Sel.app zq1 ?_) | exact Sel.one zq1))
      · rw [List.take_of_length_le (by omega)] at hi1
        refine yq195 ?_
        exact T.retF (Lv.fin (RV.tmp rfl rfl) (by rw [ofP_miss hi1]; rfl))
  refine zs3 ?_; (refine T.box Wanted.none rfl rfl zq15 ?_; intro b4); (refine T.box Wanted.none rfl rfl zq15 ?_; intro b6); (refine T.box Wanted.none rfl rfl zq15 ?_; intro b7); refine yq95 ?_; refine yq5 ?_; refine T.callV Wanted.none rfl rfl (hxt) ?_; refine yq146 ?_; refine sy fun b9 => ?_; refine yq98 ?_; refine yq5 ?_; refine yq0 ?_; refine yq186 ?_; refine yq53 ?_; refine yq53 ?_; refine yq12 ?_; refine sa ?_
  refine so ?_; refine sd rfl (by omega) ?_; refine yq53 ?_; refine yq25 ?_
  exact T.retF (Lv.fin (RV.tmp rfl rfl) (by unfold keyO; rw [if_neg k1, if_neg k2, if_neg k3, if_neg k4]; rfl))
end Go.Proofs.YthacphfjchpoaaaGreatDoor
namespace Go.Proofs.YthacphfjchpoaaaGreatDoor
open Go.RowKit

def keysO (c : Cp) (lb : List ByteArray) (m : Mt) (gs : List Gp) : List ByteArray := match fitO c m with
  | none => []
  | some t => gs.map (keyO c lb m t)
theorem keysO_some {c : Cp} {lb : List ByteArray} {m : Mt} {gs : List Gp} {t : Rg} (h : fitO c m = some t) : keysO c lb m gs = gs.map (keyO c lb m t) := by unfold keysO; rw [h]
theorem keysO_none {c : Cp} {lb : List ByteArray} {m : Mt} {gs : List Gp} (h : fitO c m = none) : keysO c lb m gs = [] := by unfold keysO; rw [h]
theorem map_snoc {α β : Type} {f : α → β} {l : List α} {i : Nat} {x : α} (h : l[i]? = some x) : (l.take (i + 1)).map f = (l.take i).map f ++ [f x] := by
  rw [List.take_add_one, h, List.map_append]; rfl
structure KeG where
  i : Nat
  v : Value
  lv : List (Nat × Obj)
set_option maxHeartbeats 2000000 in
theorem keys_in (c : Cp) (lb : List ByteArray) (vl : Value) (m : Mt) (gs : List Gp) (vg : Value) (H : Hp) (hT : PowT H) (hc : CpL H c) (hw : CpW c) (hlb : StL H vl lb) (hm : LabOk H m) (hl : m.ls.length ≤ 1000) (hg : GpL H vg gs) (hgl : gs.length ≤ 1000) :
    Fn Tryz.prog 17 #[cpV c, vl, mtV m, vg] H (fun u H' => StL H' u (keysO c lb m gs)) := by
  have hfi := fits_in c m H hc hw hm hl
  obtain ⟨al, cl, hmv⟩ := hm.1.len
  obtain ⟨ag, cg, rfl⟩ := hg.len
  unfold cpV mtV at hfi
  unfold cpV mtV
  rw [hmv] at hfi ⊢
  refine Fn.of_T (vs := [.agg #[c.va, c.vt, c.vx, c.vr, c.vn, c.vh, c.vs], vl, .agg #[.int .i64 m.b, .int .i64 m.e, .slice al m.ls.length cl], .slice ag gs.length cg]) Tryz.func17 rfl rfl fun w => ?_
  cases hf : fitO c m with
  | none =>
    rw [hf] at hfi
    change Fn _ _ _ _ (fun u _ => u = .tuple #[.agg #[.string (bs []), .int .i64 0, .int .i64 0, .slice none 0 0], .bool false]) at hfi
    rw [keysO_none hf]
    refine zs3 ?_; (refine T.box Wanted.none rfl rfl zq15 ?_; intro b4); (refine T.box Wanted.none rfl rfl zq15 ?_; intro b6); refine yq23 ?_; refine yq20 ?_; refine T.callV Wanted.none rfl rfl (hfi) ?_; refine yq146 ?_; refine sy fun b9 => ?_; refine yq54 ?_; refine yq14 ?_; refine sv (PV.not rfl) ?_; refine yq36 ?_; refine yq25 ?_
    exact T.retF (Lv.fin (RV.tmp rfl rfl) SlR.empty)
  | some t =>
    have hkey := fun g => key_in c lb vl m t g H hT hc hw hlb hm hl hf
    have hmem := (fitO_some hw hf).1
    have hrg := hc.x.2 t hmem
    obtain ⟨am, cm, hkv⟩ := hrg.1.len
    rw [keysO_some hf]
    rw [hf, Option.getD_some] at hfi
    unfold rgV at hfi
    rw [hkv] at hfi
    change Fn _ _ _ _ (fun u _ => u = .tuple #[.agg #[.string t.ty, .int .i64 t.b, .int .i64 t.e, .slice am t.ks.length cm], .bool true]) at hfi
    unfold cpV mtV rgV gpV at hkey
    rw [hmv, hkv] at hkey
    generalize hK : keyO c lb m t = K at hkey ⊢
    refine zs3 ?_; (refine T.box Wanted.none rfl rfl zq15 ?_; intro b4); (refine T.box Wanted.none rfl rfl zq15 ?_; intro b6); refine yq23 ?_; refine yq20 ?_; refine T.callV Wanted.none rfl rfl (hfi) ?_; refine yq146 ?_; refine sy fun b9 => ?_; refine yq54 ?_; refine yq14 ?_; refine sv (PV.not rfl) ?_; refine yq92 ?_; refine yq25 ?_; refine yq112 ?_; refine T.loopK [(23, Value.int IntKind.i64 (↑gs.length : Int)), (22, Value.slice ag gs.length cg), (9, Value.pointer (some { block := b9, off := 0 })), (6, Value.pointer (some { block := b6, off := 0 })), (4, Value.pointer (some { block := b4, off := 0 })), (1, vl)] zq8 (γ := KeG) (fun g => g.i ≤ gs.length ∧ StV g.v g.lv g.i ((gs.take g.i).map K)) (fun g => [(24, .int .i64 (g.i : Int)), (11, g.v)]) (fun g => g.lv ++ [(b9, .cells #[.string t.ty, .int .i64 t.b, .int .i64 t.e, .slice am t.ks.length cm] 71 (0, 0)), (b6, .cells #[.int .i64 m.b, .int .i64 m.e, .slice al m.ls.length cl] 44 (0, 0)), (b4, .cells #[c.va, c.vt, c.vx, c.vr, c.vn, c.vh, c.vs] 32 (0, 0))]) (fun _ => H) (fun g => gs.length - g.i) ⟨0, .slice none 0 0, []⟩ ⟨Nat.zero_le _, Vec.nil _ _⟩ zq8 (Sel.refl _) rfl ?_
    rintro ⟨i, v, lv⟩ ⟨g1, g2⟩
    dsimp only at g1 g2 ⊢
    obtain ⟨adv, capv, rfl⟩ := g2.val
    by_cases hi : i < gs.length
    · obtain ⟨b, off, g, rfl, hix, hsub⟩ := RowL.get encGp_len hg hi
      unfold encGp at hsub
      have hkg := hkey g
      refine yq110 ?_; refine sy fun b13 => ?_; refine T.storeA Wanted.none rfl rfl zq8 (by exact rfl) zq14 zq13 ?_; refine zs2 ?_; refine yq138 ?_; refine sm ?_; refine yq20 ?_; refine sv (PV.loadAll rfl zq0 (by exact rfl)) ?_; refine T.callV Wanted.none rfl rfl (hkg) ?_; (refine T.buildSlice Wanted.none rfl rfl zq11 (by exact rfl) (by exact rfl) ?_; intro b35); (refine T.appendP (lv := lv) Wanted.none rfl rfl rfl g2 (Src.cells (m := 1) (ys := encT (K g)) (.own zq2) rfl rfl) (one_encT _) (by omega) zq1 ?_; intro v36 lv36 hv36 _; obtain ⟨ad36, cap36, rfl⟩ := hv36.val); refine yq0 ?_; refine yq61 ?_
      refine T.nextP ⟨i + 1, _, lv36⟩ ⟨by dsimp only; omega, ?_⟩ (by dsimp only; omega) zq8 (by repeat (first | exact Sel.refl _ | exact Sel.nil | (refine Sel.cons zq1 ?_) | (refine Sel.app zq1 ?_) | exact Sel.one zq1)) rfl
      dsimp only
      rw [map_snoc hix, StV, List.flatMap_append]
      simpa using hv36
    · rw [List.take_of_length_le (by omega)] at g2
      obtain rfl : i = gs.length := by omega
      refine yq74 ?_; refine yq140 ?_
      exact T.retF (Vec.freezeLv (l' := [_, _, _]) g2 zq4 fun H' _ hsl => Lv.fin (RV.tmp rfl rfl) (by rw [StL, List.length_map]; exact hsl))
set_option maxHeartbeats 2000000 in
theorem keys_ref (c : Cp) (lb : List ByteArray) (vl : Value) (m : Mt) (gs : List Gp) (vg : Value) (H : Hp) (hc : CpL H c) (hw : CpW c) (hlb : StL H vl lb) (hm : LabOk H m) (hl : m.ls.length ≤ 1000) (hg : GpL H vg gs) (hgl : gs.length ≤ 1000) :
    Fn Tryz.prog 18 #[cpV c, vl, mtV m, vg] H (fun u H' => StL H' u (keysO c lb m gs)) := by
  have hfi := fits_ref c m H hc hm hl
  obtain ⟨al, cl, hmv⟩ := hm.1.len
  obtain ⟨ag, cg, rfl⟩ := hg.len
  unfold cpV mtV at hfi
  unfold cpV mtV
  rw [hmv] at hfi ⊢
  refine Fn.of_T (vs := [.agg #[c.va, c.vt, c.vx, c.vr, c.vn, c.vh, c.vs], vl, .agg #[.int .i64 m.b, .int .i64 m.e, .slice al m.ls.length cl], .slice ag gs.length cg]) Tryz.func18 rfl rfl fun w => ?_
  cases hf : fitO c m with
  | none =>
    rw [hf] at hfi
    change Fn _ _ _ _ (fun u _ => u = .bool false) at hfi
    rw [keysO_none hf]
    refine zs3 ?_; (refine T.box Wanted.none rfl rfl zq15 ?_; intro b4); (refine T.box Wanted.none rfl rfl zq15 ?_; intro b6); refine yq0 ?_; refine sq ?_; refine zs3 ?_; refine yq20 ?_; refine T.callV Wanted.none rfl rfl (hfi) ?_; refine sv (PV.not rfl) ?_; refine yq36 ?_; refine yq25 ?_
    exact T.retF (Lv.fin (RV.tmp rfl rfl) SlR.empty)
  | some t =>
    have hkey := fun g => key_ref c lb vl m t g H hc hw hlb hm hl hf
    rw [keysO_some hf]
    rw [hf] at hfi
    change Fn _ _ _ _ (fun u _ => u = .bool true) at hfi
    unfold cpV mtV gpV at hkey
    rw [hmv] at hkey
    generalize hK : keyO c lb m t = K at hkey ⊢
    refine zs3 ?_; (refine T.box Wanted.none rfl rfl zq15 ?_; intro b4); (refine T.box Wanted.none rfl rfl zq15 ?_; intro b6); refine yq0 ?_; refine sq ?_; refine zs3 ?_; refine yq20 ?_; refine T.callV Wanted.none rfl rfl (hfi) ?_; refine sv (PV.not rfl) ?_; refine yq92 ?_; refine yq25 ?_; refine yq112 ?_; refine T.loopK [(17, Value.int IntKind.i64 (↑gs.length : Int)), (16, Value.slice ag gs.length cg), (6, Value.pointer (some { block := b6, off := 0 })), (4, Value.pointer (some { block := b4, off := 0 })), (1, vl)] zq8 (γ := KeG) (fun g => g.i ≤ gs.length ∧ StV g.v g.lv g.i ((gs.take g.i).map K)) (fun g => [(18, .int .i64 (g.i : Int)), (9, g.v)]) (fun g => g.lv ++ [(b6, .cells #[.int .i64 m.b, .int .i64 m.e, .slice al m.ls.length cl] 44 (0, 0)), (b4, .cells #[c.va, c.vt, c.vx, c.vr, c.vn, c.vh, c.vs] 32 (0, 0))]) (fun _ => H) (fun g => gs.length - g.i) ⟨0, .slice none 0 0, []⟩ ⟨Nat.zero_le _, Vec.nil _ _⟩ zq8 (Sel.refl _) rfl ?_
    rintro ⟨i, v, lv⟩ ⟨g1, g2⟩
    dsimp only at g1 g2 ⊢
    obtain ⟨adv, capv, rfl⟩ := g2.val
    by_cases hi : i < gs.length
    · obtain ⟨b, off, g, rfl, hix, hsub⟩ := RowL.get encGp_len hg hi
      unfold encGp at hsub
      have hkg := hkey g
      refine yq110 ?_; refine sy fun b11 => ?_; refine T.storeA Wanted.none rfl rfl zq8 (by exact rfl) zq14 zq13 ?_; refine zs2 ?_; refine yq138 ?_; refine sm ?_; refine yq20 ?_; refine T.callV Wanted.none rfl rfl (hkg) ?_; (refine T.buildSlice Wanted.none rfl rfl zq11 (by exact rfl) (by exact rfl) ?_; intro b28); (refine T.appendP (lv := lv) Wanted.none rfl rfl rfl g2 (Src.cells (m := 1) (ys := encT (K g)) (.own zq2) rfl rfl) (one_encT _) (by omega) zq1 ?_; intro v29 lv29 hv29 _; obtain ⟨ad29, cap29, rfl⟩ := hv29.val); refine yq0 ?_; refine yq61 ?_
      refine T.nextP ⟨i + 1, _, lv29⟩ ⟨by dsimp only; omega, ?_⟩ (by dsimp only; omega) zq8 (by repeat (first | exact Sel.refl _ | exact Sel.nil | (refine Sel.cons zq1 ?_) | (refine Sel.app zq1 ?_) | exact Sel.one zq1)) rfl
      dsimp only
      rw [map_snoc hix, StV, List.flatMap_append]
      simpa using hv29
    · rw [List.take_of_length_le (by omega)] at g2
      obtain rfl : i = gs.length := by omega
      refine yq74 ?_; refine yq140 ?_
      exact T.retF (Vec.freezeLv (l' := [_, _]) g2 zq4 fun H' _ hsl => Lv.fin (RV.tmp rfl rfl) (by rw [StL, List.length_map]; exact hsl))
end Go.Proofs.YthacphfjchpoaaaGreatDoor
