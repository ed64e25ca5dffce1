/- a condition on a feature: valid; which tokens hold it.
   a condition on a feature: which tokens hold it; Select. -/
import Derived.Test.YtpjdhokpfccahaaGreatDoorGE
namespace Go.Proofs.YtpjdhokpfccahaaGreatDoor
open Go.RowKit


/-- attribute k bears the name, and none before it -/
structure AtOk (l : List (ByteArray × Bool)) (nm : ByteArray) (st : Bool) (k : Nat) : Prop where
  at_ : l[k]? = some (nm, st)
  ix : attI l nm = k
theorem atOk_of {l : List (ByteArray × Bool)} (hd : distN l l.length) {k : Nat} {nm : ByteArray} {st : Bool} (h : l[k]? = some (nm, st)) : AtOk l nm st k := by
  refine ⟨h, ?_⟩
  refine ixI_hit ?_ h (decide_eq_true rfl)
  rw [Bool.eq_false_iff]
  intro ha
  obtain ⟨x, hx, hxn⟩ := List.any_eq_true.1 ha
  obtain ⟨j, hj⟩ := List.getElem?_of_mem hx
  rw [List.getElem?_take] at hj
  split at hj
  · rename_i hjk
    exact hd k j _ _ hjk (List.getElem?_eq_some_iff.1 h).1 h hj (of_decide_eq_true hxn).symm
  · cases hj
end Go.Proofs.YtpjdhokpfccahaaGreatDoor
namespace Go.Proofs.YtpjdhokpfccahaaGreatDoor
open Go.RowKit


theorem valueC_fn (c : Cp) (i a : Nat) (t : Tk) (s : ByteArray) (H : Hp) (hc : CpA H c) (hti : c.tk[i]? = some t) (hsa : t.ss[a]? = some s) :
    Fn Tryz.prog 45 #[cpV c, .int .i64 (i : Int), .int .i64 (a : Int)] H (fun u _ => u = .string s) := by
  have hto := hc.tO t (List.mem_of_getElem? hti)
  have hil := (List.getElem?_eq_some_iff.1 hti).1
  have hal := (List.getElem?_eq_some_iff.1 hsa).1
  obtain ⟨aa, ca, at1, ct, ax, cx, ar, cr, an, cn, ah, ch, as1, cs, hcv, ha, ht, hx, hr, hn, hh, hs⟩ := hc.open; rw [hcv]; have hla := hc.la; have hlt := hc.lt; have hlx := hc.lx; have hlr := hc.lr; have hln := hc.ln; have hlh := hc.lh; have hls := hc.ls
  refine Fn.of_T (vs := [.agg #[.slice aa c.att.length ca, .slice at1 c.tk.length ct, .slice ax c.tx.length cx, .slice ar c.rg.length cr, .slice an c.nd.length cn, .slice ah c.hd.length ch, .slice as1 c.rl.length cs], .int .i64 (i : Int), .int .i64 (a : Int)]) Tryz.func45 rfl rfl fun w => ?_
  obtain ⟨b, off, x, rfl, hix, hsub⟩ := RowL.get encTk_len ht (i := i) (by omega)
  rw [hti] at hix
  obtain rfl := Option.some.inj hix
  obtain ⟨av, cv, hvv⟩ := hto.1.len
  have hst := hto.1
  rw [hvv] at hst
  unfold encTk at hsub
  rw [hvv] at hsub
  obtain ⟨b2, off2, x2, rfl, hix2, hsub2⟩ := RowL.get encT_len hst (i := a) (by omega)
  rw [hsa] at hix2
  obtain rfl := Option.some.inj hix2
  unfold encT at hsub2
  have g1 : ¬ (i : Int) < 0 := by omega
  have g2 : ¬ (c.tk.length : Int) ≤ (i : Int) := by omega
  have g3 : ¬ (a : Int) < 0 := by omega
  have g4 : ¬ (t.ss.length : Int) ≤ (a : Int) := by omega
  refine zs3 ?_; (refine T.box Wanted.none rfl rfl zq15 ?_; intro b3); refine sa ?_; refine so ?_; refine sq ?_; refine zs3 ?_; refine sm ?_; refine sv (PV.lss rfl rfl) ?_; refine sm ?_; refine gm ?_; refine gf ?_; refine gl ?_; refine gv (PV.lenSl rfl) ?_; refine gv (PV.geq rfl rfl) ?_; refine sF ?_; refine sm ?_; refine T.setF (d := 16) rfl (by omega) ?_; refine gm ?_; refine gv (PV.lss rfl rfl) ?_; refine sF ?_; refine sm ?_; refine gm ?_; refine gf ?_; refine gl ?_; refine gm ?_; refine gv (PV.indexAddr rfl rfl (by omega)) ?_; refine gv (PV.loadSub0 rfl (by assumption)) ?_; refine gv (PV.lenSl rfl) ?_; refine gv (PV.geq rfl rfl) ?_; refine sF ?_; refine so ?_; refine sd rfl (by omega) ?_; refine T.skip ?_; refine zs3 ?_; refine sf ?_; refine sl ?_; refine sm ?_; refine sv (PV.indexAddr rfl rfl (by omega)) ?_; refine sv (PV.loadSub0 rfl (by assumption)) ?_; refine sm ?_
  refine sv (PV.indexAddr rfl rfl (by omega)) ?_; refine sv (PV.loadSub0 rfl (by assumption)) ?_; refine sa ?_; refine so ?_
  exact T.retF (Lv.fin (RV.tmp rfl rfl) rfl)
/-- the places at which g holds -/
def selG (g : Nat → Bool) (n : Nat) : List Int := ((List.range n).filter g).map fun i : Nat => (i : Int)
theorem selG_succ (g : Nat → Bool) (n : Nat) : selG g (n + 1) = selG g n ++ if g n then [(n : Int)] else [] := by
  unfold selG
  rw [List.range_succ, List.filter_append, List.map_append]
  congr 1
  cases h : g n <;> simp [h]
theorem selG_len (g : Nat → Bool) (n : Nat) : (selG g n).length ≤ n := by
  unfold selG
  rw [List.length_map]
  exact Nat.le_trans (List.length_filter_le _ _) (by simp)
/-- the value of attribute a of token i -/
def valT (c : Cp) (a i : Nat) : ByteArray := ((c.tk[i]?).bind fun t => t.ss[a]?).getD ⟨#[]⟩
theorem valT_at {c : Cp} (hg : cpGood c) {a i : Nat} (hi : i < c.tk.length) (ha : a < c.att.length) : ∃ t, c.tk[i]? = some t ∧ t.ss[a]? = some (valT c a i) := by
  have h1 : c.tk[i]? = some c.tk[i] := List.getElem?_eq_getElem hi
  have h2 := hg.t c.tk[i] (List.getElem_mem hi)
  have h3 : c.tk[i].ss[a]? = some (c.tk[i].ss[a]'(by omega)) := List.getElem?_eq_getElem (by omega)
  refine ⟨_, h1, ?_⟩
  rw [h3]
  unfold valT
  rw [h1]
  show some _ = some ((c.tk[i].ss[a]?).getD _)
  rw [h3]; rfl
structure SelS where
  i : Nat
  v : Value
  lv : List (Nat × Obj)
end Go.Proofs.YtpjdhokpfccahaaGreatDoor
