/- any corpus in memory that is only read: names, values, attributes are looked at.
   lines: the first index of an element; attributes; the text of a token; whether a match fits.
   a condition on a feature: measured, loosened, well formed. -/
import Derived.Test.YtbcadnjfegiakaaGreatDoorG8
namespace Go.Proofs.YtbcadnjfegiakaaGreatDoor
open Go.RowKit


def PrA (H : Hp) (v : Value) (l : List (ByteArray × ByteArray)) : Prop := SlR H 2 v l.length (l.flatMap encPr) ∧ l.length ≤ 9223372036854775807
def RgA (H : Hp) (r : Rg) : Prop := PrA H r.kv r.ks
def RgAL (H : Hp) (v : Value) (l : List Rg) : Prop := SlR H 4 v l.length (l.flatMap encRg) ∧ ∀ r ∈ l, RgA H r
def TkA (H : Hp) (t : Tk) : Prop := StL H t.v t.ss ∧ t.ss.length ≤ 9223372036854775807
theorem PrA.mono {H H' : Hp} {v : Value} {l : List (ByteArray × ByteArray)} (h : PrA H v l) (hl : H.le H') : PrA H' v l := ⟨h.1.mono hl, h.2⟩
theorem RgA.mono {H H' : Hp} {r : Rg} (h : RgA H r) (hl : H.le H') : RgA H' r := PrA.mono h hl
theorem RgAL.mono {H H' : Hp} {v : Value} {l : List Rg} (h : RgAL H v l) (hl : H.le H') : RgAL H' v l := ⟨h.1.mono hl, fun r hr => (h.2 r hr).mono hl⟩
theorem TkA.mono {H H' : Hp} {t : Tk} (h : TkA H t) (hl : H.le H') : TkA H' t := ⟨h.1.mono hl, h.2⟩
/-- a corpus in memory that is only read, of few elements -/
structure CpA (H : Hp) (c : Cp) : Prop where
  a : SlR H 2 c.va c.att.length (c.att.flatMap encAt)
  t : SlR H 1 c.vt c.tk.length (c.tk.flatMap encTk)
  x : RgAL H c.vx c.tx
  r : RgAL H c.vr c.rg
  n : NdL H c.vn c.nd
  h : InL H c.vh c.hd
  s : StL H c.vs c.rl
  tO : ∀ t ∈ c.tk, TkA H t
  la : c.att.length ≤ 1000
  lt : c.tk.length ≤ 1000
  lx : c.tx.length ≤ 1000
  lr : c.rg.length ≤ 1000
  ln : c.nd.length ≤ 1000
  lh : c.hd.length ≤ 9223372036854775807
  ls : c.rl.length ≤ 9223372036854775807
theorem CpA.mono {H H' : Hp} {c : Cp} (h : CpA H c) (hl : H.le H') : CpA H' c :=
  ⟨h.a.mono hl, h.t.mono hl, h.x.mono hl, h.r.mono hl, h.n.mono hl, h.h.mono hl, h.s.mono hl, fun t ht => (h.tO t ht).mono hl, h.la, h.lt, h.lx, h.lr, h.ln, h.lh, h.ls⟩
theorem CpA.open {H : Hp} {c : Cp} (hc : CpA H c) : ∃ aa ca at1 ct ax cx ar cr an cn ah ch as1 cs, cpV c = .agg #[.slice aa c.att.length ca, .slice at1 c.tk.length ct, .slice ax c.tx.length cx, .slice ar c.rg.length cr, .slice an c.nd.length cn, .slice ah c.hd.length ch, .slice as1 c.rl.length cs] ∧
    SlR H 2 (.slice aa c.att.length ca) c.att.length (c.att.flatMap encAt) ∧ SlR H 1 (.slice at1 c.tk.length ct) c.tk.length (c.tk.flatMap encTk) ∧ RgAL H (.slice ax c.tx.length cx) c.tx ∧ RgAL H (.slice ar c.rg.length cr) c.rg ∧
    NdL H (.slice an c.nd.length cn) c.nd ∧ InL H (.slice ah c.hd.length ch) c.hd ∧ StL H (.slice as1 c.rl.length cs) c.rl := by
  obtain ⟨aa, ca, h1⟩ := hc.a.len
  obtain ⟨at1, ct, h2⟩ := hc.t.len
  obtain ⟨ax, cx, h3⟩ := hc.x.1.len
  obtain ⟨ar, cr, h4⟩ := hc.r.1.len
  obtain ⟨an, cn, h5⟩ := hc.n.len
  obtain ⟨ah, ch, h6⟩ := hc.h.len
  obtain ⟨as1, cs, h7⟩ := hc.s.len
  exact ⟨aa, ca, at1, ct, ax, cx, ar, cr, an, cn, ah, ch, as1, cs, by unfold cpV; rw [h1, h2, h3, h4, h5, h6, h7], h1 ▸ hc.a, h2 ▸ hc.t, h3 ▸ hc.x, h4 ▸ hc.r, h5 ▸ hc.n, h6 ▸ hc.h, h7 ▸ hc.s⟩
set_option maxHeartbeats 2000000 in
theorem cmpRegA_fn (x y : Rg) (H : Hp) (hx : RgA H x) (hy : RgA H y) : Fn Tryz.prog 130 #[rgV x, rgV y] H (fun u _ => u = .int .i64 (cmpRg x y)) := by
  refine Fn.of_T (vs := [rgV x, rgV y]) Tryz.func130 rfl rfl fun w => ?_
  unfold rgV
  obtain ⟨xt, xb, xe, xv, xk⟩ := x
  obtain ⟨yt, yb, ye, yv, yk⟩ := y
  obtain ⟨hx1, hx2⟩ := hx
  obtain ⟨hy1, hy2⟩ := hy
  unfold cmpRg
  dsimp only at hx1 hx2 hy1 hy2 ⊢
  obtain ⟨ax, cx, rfl⟩ := hx1.len
  obtain ⟨ay, cy, rfl⟩ := hy1.len
  by_cases h1 : xb ≠ yb
  · rw [if_pos h1]
    refine zs3 ?_; (refine T.box Wanted.none rfl rfl zq15 ?_; intro b2); (refine T.box Wanted.none rfl rfl zq15 ?_; intro b3); refine yq11 ?_; refine T.block ?_; refine zs3 ?_; refine yq6 ?_; refine yq6 ?_; refine sv (PV.neq rfl rfl) ?_; refine yq0 ?_; refine sC rfl (by omega) ?_; refine zs3 ?_; refine yq6 ?_; refine yq6 ?_; refine sv (PV.lss rfl rfl) ?_; refine T.callV Wanted.none rfl rfl (sign_fn _ _) ?_; refine yq0 ?_
    exact T.retF (Lv.fin (RV.tmp rfl rfl) (by simp))
  rw [if_neg h1]
  have h1' : xb = yb := by omega
  subst h1'
  by_cases h2 : xe ≠ ye
  · rw [if_pos h2]
    refine zs3 ?_; (refine T.box Wanted.none rfl rfl zq15 ?_; intro b2); (refine T.box Wanted.none rfl rfl zq15 ?_; intro b3); refine yq11 ?_; refine T.block ?_; refine zs3 ?_; refine yq6 ?_; refine yq6 ?_; refine sv (PV.neq rfl rfl) ?_; refine yq0 ?_; refine sd rfl (by omega) ?_; refine zs3 ?_; refine yq6 ?_; refine yq6 ?_; refine sv (PV.neq rfl rfl) ?_; refine yq0 ?_; refine sC rfl (by omega) ?_; refine zs3 ?_; refine yq6 ?_; refine yq6 ?_; refine sv (PV.gtr rfl rfl) ?_; refine T.callV Wanted.none rfl rfl (sign_fn _ _) ?_; refine yq0 ?_
    exact T.retF (Lv.fin (RV.tmp rfl rfl) (by simp))
  rw [if_neg h2]
  have h2' : xe = ye := by omega
  subst h2'
  by_cases h3 : xt ≠ yt
  · rw [if_pos h3]
    have hd3 : decide (xt ≠ yt) = true := decide_eq_true h3
    refine zs3 ?_; (refine T.box Wanted.none rfl rfl zq15 ?_; intro b2); (refine T.box Wanted.none rfl rfl zq15 ?_; intro b3); refine yq11 ?_; refine T.block ?_; refine zs3 ?_; refine yq6 ?_; refine yq6 ?_; refine sv (PV.neq rfl rfl) ?_; refine yq0 ?_; refine sd rfl (by omega) ?_; refine zs3 ?_; refine yq6 ?_; refine yq6 ?_; refine sv (PV.neq rfl rfl) ?_; refine yq0 ?_; refine sd rfl (by omega) ?_; refine zs3 ?_; refine yq6 ?_; refine yq6 ?_; refine sv (PV.sneq rfl rfl) ?_; refine yq0 ?_; refine T.condT rfl (by assumption) ?_; refine zs3 ?_; refine yq6 ?_; refine yq6 ?_; refine T.callV Wanted.none rfl rfl (scompare_fn _ _ _) ?_
    refine yq0 ?_
    exact T.retF (Lv.fin (RV.tmp rfl rfl) rfl)
  rw [if_neg h3]
  have hd3 : decide (xt ≠ yt) = false := decide_eq_false h3
  refine zs3 ?_; (refine T.box Wanted.none rfl rfl zq15 ?_; intro b2); (refine T.box Wanted.none rfl rfl zq15 ?_; intro b3); refine yq11 ?_; refine T.block ?_; refine zs3 ?_; refine yq6 ?_; refine yq6 ?_; refine sv (PV.neq rfl rfl) ?_; refine yq0 ?_; refine sd rfl (by omega) ?_; refine zs3 ?_; refine yq6 ?_; refine yq6 ?_; refine sv (PV.neq rfl rfl) ?_; refine yq0 ?_; refine sd rfl (by omega) ?_; refine zs3 ?_; refine yq6 ?_; refine yq6 ?_; refine sv (PV.sneq rfl rfl) ?_; refine yq0 ?_; refine T.condF rfl (by assumption) ?_; refine T.skip ?_; refine T.blkEnd ?_; refine sq ?_; refine zs3 ?_; refine yq0 ?_
  refine T.block ?_
  refine T.loop (γ := Nat) (fun i => i ≤ xk.length ∧ i ≤ yk.length ∧ cmpKeys (xk.drop i) (yk.drop i) = cmpKeys xk yk)
    (fun i => [(5, .int .i64 (i : Int)), (2, .pointer (some ⟨b2, 0, none⟩)), (3, .pointer (some ⟨b3, 0, none⟩))])
    (fun _ => [(b3, .cells #[.string yt, .int .i64 xb, .int .i64 xe, .slice ay yk.length cy] 54 (0, 0)), (b2, .cells #[.string xt, .int .i64 xb, .int .i64 xe, .slice ax xk.length cx] 54 (0, 0))]) (fun _ => H) (fun i => xk.length - i) 0 ⟨by simp, by simp, rfl⟩ zq8 zq4 rfl ?_
  rintro i ⟨hi, hi2, hi3⟩
  by_cases hix : i < xk.length
  · by_cases hiy : i < yk.length
    · obtain ⟨p, hp⟩ : ∃ z, xk[i]? = some z := ⟨_, List.getElem?_eq_getElem hix⟩
      obtain ⟨q, hq⟩ : ∃ z, yk[i]? = some z := ⟨_, List.getElem?_eq_getElem hiy⟩
      obtain ⟨bx, ox, rfl, hsx⟩ := RowL.at encPr_len hx1 hp
      obtain ⟨by', oy, rfl, hsy⟩ := RowL.at encPr_len hy1 hq
      unfold encPr at hsx hsy
      have hcn := scompare_fn p.1 q.1 H
      have hcv := scompare_fn p.2 q.2 H
      rw [cmpKeys_drop hp hq] at hi3
      by_cases h4 : p.1 ≠ q.1
      · rw [if_pos h4] at hi3
        have hd4 : decide (p.1 ≠ q.1) = true := decide_eq_true h4
        refine sq ?_; refine yq4 ?_; refine yq12 ?_; refine sv (PV.lss rfl rfl) ?_; refine sm ?_; refine T.setT (d := 46) rfl (by omega) ?_; refine gm ?_; refine yq26 ?_; refine gv (PV.lenSl rfl) ?_; refine gv (PV.lss rfl rfl) ?_; refine sT ?_; refine so ?_; refine sC rfl (by omega) ?_; refine yq25 ?_; refine sq ?_; refine sq ?_; refine T.regionQ (by kernel_rfl) ?_; refine yq1 ?_; refine yq18 ?_; refine yq31 ?_; refine yq1 ?_; refine yq18 ?_; refine yq31 ?_; refine TQ.pv (PV.sneq rfl rfl) Wanted.none rfl rfl ?_; refine TQ.nil ?_; refine T.condT rfl (by assumption) ?_; refine sq ?_; refine T.regionQ (by kernel_rfl) ?_
        refine yq1 ?_; refine yq18 ?_; refine yq31 ?_; refine yq1 ?_; refine yq18 ?_; refine yq31 ?_; refine TQ.callV Wanted.none rfl rfl (hcn) ?_; refine yq34 ?_
        exact T.retF (Lv.fin (RV.tmp rfl rfl) (by rw [← hi3]))
      rw [if_neg h4] at hi3
      have hd4 : decide (p.1 ≠ q.1) = false := decide_eq_false h4
      by_cases h5 : p.2 ≠ q.2
      · rw [if_pos h5] at hi3
        have hd5 : decide (p.2 ≠ q.2) = true := decide_eq_true h5
        refine sq ?_; refine yq4 ?_; refine yq12 ?_; refine sv (PV.lss rfl rfl) ?_; refine sm ?_; refine T.setT (d := 46) rfl (by omega) ?_; refine gm ?_; refine yq26 ?_; refine gv (PV.lenSl rfl) ?_; refine gv (PV.lss rfl rfl) ?_; refine sT ?_; refine so ?_; refine sC rfl (by omega) ?_; refine yq25 ?_; refine sq ?_; refine sq ?_; refine T.regionQ (by kernel_rfl) ?_; refine yq1 ?_; refine yq18 ?_; refine yq31 ?_; refine yq1 ?_; refine yq18 ?_; refine yq31 ?_; refine TQ.pv (PV.sneq rfl rfl) Wanted.none rfl rfl ?_; refine TQ.nil ?_; refine T.condF rfl (by assumption) ?_; refine T.skip ?_; refine sq ?_
        refine T.regionQ (by kernel_rfl) ?_; refine yq1 ?_; refine yq18 ?_; refine yq31 ?_; refine yq1 ?_; refine yq18 ?_; refine yq31 ?_; refine TQ.pv (PV.sneq rfl rfl) Wanted.none rfl rfl ?_; refine TQ.nil ?_; refine T.condT rfl (by assumption) ?_; refine sq ?_; refine T.regionQ (by kernel_rfl) ?_; refine yq1 ?_; refine yq18 ?_; refine yq31 ?_; refine yq1 ?_; refine yq18 ?_; refine yq31 ?_; refine TQ.callV Wanted.none rfl rfl (hcv) ?_; refine yq34 ?_
        exact T.retF (Lv.fin (RV.tmp rfl rfl) (by rw [← hi3]))
      rw [if_neg h5] at hi3
      have hd5 : decide (p.2 ≠ q.2) = false := decide_eq_false h5
      refine sq ?_; refine yq4 ?_; refine yq12 ?_; refine sv (PV.lss rfl rfl) ?_; refine sm ?_; refine T.setT (d := 46) rfl (by omega) ?_; refine gm ?_; refine yq26 ?_; refine gv (PV.lenSl rfl) ?_; refine gv (PV.lss rfl rfl) ?_; refine sT ?_; refine so ?_; refine sC rfl (by omega) ?_; refine yq25 ?_; refine sq ?_; refine sq ?_; refine T.regionQ (by kernel_rfl) ?_; refine yq1 ?_; refine yq18 ?_; refine yq31 ?_; refine yq1 ?_; refine yq18 ?_; refine yq31 ?_; refine TQ.pv (PV.sneq rfl rfl) Wanted.none rfl rfl ?_; refine TQ.nil ?_; refine T.condF rfl (by assumption) ?_; refine T.skip ?_; refine sq ?_
      refine T.regionQ (by kernel_rfl) ?_; refine yq1 ?_; refine yq18 ?_; refine yq31 ?_; refine yq1 ?_; refine yq18 ?_; refine yq31 ?_; refine TQ.pv (PV.sneq rfl rfl) Wanted.none rfl rfl ?_; refine TQ.nil ?_; refine T.condF rfl (by assumption) ?_; refine T.skip ?_; refine T.blkEnd ?_; refine sr ?_; refine sm ?_; refine sv (PV.add rfl rfl (by omega)) ?_; refine yq0 ?_
      exact T.next (i + 1) ⟨by omega, by omega, hi3⟩ (by omega) zq8 zq4 rfl
    · rw [cmpKeys_end (by omega) hi hi2, if_pos (by omega), if_neg (by omega)] at hi3
      have hsg := sign_fn (decide ((xk.length : Int) < yk.length)) H
      rw [decide_eq_false (by omega)] at hsg
      have hlt : decide ((xk.length : Int) < yk.length) = false := decide_eq_false (by omega)
      refine sq ?_; refine yq4 ?_; refine yq12 ?_; refine sv (PV.lss rfl rfl) ?_; refine sm ?_; refine T.setT (d := 46) rfl (by omega) ?_; refine gm ?_; refine yq26 ?_; refine gv (PV.lenSl rfl) ?_; refine gv (PV.lss rfl rfl) ?_; refine sT ?_; refine so ?_; refine yq21 ?_; refine sq ?_; refine zs3 ?_; refine yq12 ?_; refine yq12 ?_; refine yq29 ?_; refine sC rfl (by omega) ?_; refine zs3 ?_; refine yq12 ?_; refine yq12 ?_; refine sv (PV.lss rfl rfl) ?_
      rw [hlt]
      refine T.callV Wanted.none rfl rfl hsg ?_; refine yq0 ?_
      exact T.retF (Lv.fin (RV.tmp rfl rfl) (by rw [← hi3]; rfl))
  · rw [cmpKeys_end (by omega) hi hi2] at hi3
    by_cases h6 : xk.length ≠ yk.length
    · rw [if_pos h6, if_pos (by omega)] at hi3
      have hlt : decide ((xk.length : Int) < yk.length) = true := decide_eq_true (by omega)
      refine sq ?_; refine yq4 ?_; refine yq12 ?_; refine sv (PV.lss rfl rfl) ?_; refine sm ?_; refine T.setF (d := 46) rfl (by omega) ?_; refine yq17 ?_; refine yq17 ?_; refine sp ?_; refine sF ?_; refine so ?_; refine yq22 ?_; refine sq ?_; refine zs3 ?_; refine yq12 ?_; refine yq12 ?_; refine yq29 ?_; refine sC rfl (by omega) ?_; refine zs3 ?_; refine yq12 ?_; refine yq12 ?_; refine sv (PV.lss rfl rfl) ?_
      rw [hlt]
      refine T.callV Wanted.none rfl rfl (sign_fn _ _) ?_; refine yq0 ?_
      exact T.retF (Lv.fin (RV.tmp rfl rfl) (by rw [← hi3]; rfl))
    · rw [if_neg h6] at hi3
      refine sq ?_; refine yq4 ?_; refine yq12 ?_; refine sv (PV.lss rfl rfl) ?_; refine sm ?_; refine T.setF (d := 46) rfl (by omega) ?_; refine yq17 ?_; refine yq17 ?_; refine sp ?_; refine sF ?_; refine so ?_; refine yq22 ?_; refine sq ?_; refine zs3 ?_; refine yq12 ?_; refine yq12 ?_; refine yq29 ?_; refine sd rfl (by omega) ?_; refine T.skip ?_; refine zs3 ?_; refine yq0 ?_
      exact T.retF (Lv.fin (RV.tmp rfl rfl) (by rw [← hi3]))
/-- a string that may be a value -/
def VvS (s : ByteArray) : Prop := s.size ≤ 120 ∧ validS s = true
/-- the error of a value; if there is none, the value is short and valid -/
def ErrV (s : ByteArray) (u : Value) : Prop := ∃ n : Int, u = .int .i64 n ∧ (n = 0 → VvS s)
theorem validValueA_fn (s : ByteArray) (H : Hp) : Fn Tryz.prog 196 #[.string s] H (fun u _ => ErrV s u) := by
  by_cases h1 : 120 < s.size
  · refine Fn.of_T (vs := [.string s]) Tryz.func196 rfl rfl fun w => ?_; refine zs3 ?_; refine yq11 ?_; refine yq4 ?_; refine sv (PV.lenStr rfl) ?_; refine sv (PV.gtr rfl rfl) ?_; refine so ?_; refine sC rfl (by omega) ?_; refine zs3 ?_; refine yq0 ?_
    exact T.retF (Lv.fin (RV.tmp rfl rfl) ⟨_, rfl, by intro h; cases h⟩)
  cases h2 : validS s
  · have hv := refValid_fn s H (by omega)
    rw [h2] at hv
    refine Fn.of_T (vs := [.string s]) Tryz.func196 rfl rfl fun w => ?_; refine zs3 ?_; refine yq11 ?_; refine yq4 ?_; refine sv (PV.lenStr rfl) ?_; refine sv (PV.gtr rfl rfl) ?_; refine so ?_; refine sd rfl (by omega) ?_; refine T.skip ?_; refine sq ?_; refine yq4 ?_; refine T.callV Wanted.none rfl rfl (hv) ?_; refine sv (PV.not rfl) ?_; refine so ?_; refine T.condT rfl rfl ?_; refine zs3 ?_; refine yq0 ?_
    exact T.retF (Lv.fin (RV.tmp rfl rfl) ⟨_, rfl, by intro h; cases h⟩)
  · refine (validValue_fn s H).mono ?_
    rintro u _ ⟨n, rfl⟩
    exact ⟨n, rfl, fun _ => ⟨by omega, h2⟩⟩
set_option maxHeartbeats 1000000 in
theorem parseA_fn (s : ByteArray) (H : Hp) : Fn Tryz.prog 195 #[.string s] H (fun u _ => ∃ v n, u = .tuple #[v, .int .i64 n] ∧ (n = 0 → VvS s)) := by
  refine Fn.of_T (vs := [.string s]) Tryz.func195 rfl rfl fun w => ?_; refine zs3 ?_; refine sa ?_; refine yq11 ?_; refine yq4 ?_; refine T.callX Wanted.none rfl rfl (validValueA_fn s H) ?_
  rintro _ ⟨n, rfl, hn0⟩
  refine yq28 ?_; refine yq29 ?_
  refine T.condD rfl (fun hc => ?_) (fun hc => ?_)
  · refine yq4 ?_; refine sa ?_; refine yq0 ?_
    exact T.retF (Lv.fin (RV.tmp2 rfl rfl rfl) ⟨_, _, rfl, fun h => absurd h (by omega)⟩)
  have hvs : VvS s := hn0 (by omega)
  have hs : s.size ≤ 120 := hvs.1
  by_cases h0 : s.size = 0
  · refine T.skip ?_; refine yq4 ?_; refine sv (PV.lenStr rfl) ?_; refine yq11 ?_; refine yq4 ?_; refine sv (PV.eql rfl rfl) ?_; refine sm ?_; refine T.setT (d := 19) rfl (by omega) ?_; refine yq17 ?_; refine sp ?_; refine sT ?_; refine sm ?_; refine yq17 ?_; refine yq17 ?_; refine sp ?_; refine sT ?_; refine so ?_; refine T.condT rfl rfl ?_; refine zs3 ?_; refine sa ?_; refine yq0 ?_
    exact T.retF (Lv.fin (RV.tmp2 rfl rfl rfl) ⟨_, _, rfl, fun _ => hvs⟩)
  obtain ⟨c0, hc0⟩ := byteAt (s := s) (i := 0) (by omega)
  have hc0' : s.data.toList[(0 : Int).toNat]? = some c0 := hc0
  obtain ⟨c1, hc1⟩ := byteAt (s := s) (i := s.size - 1) (by omega)
  have hc1' : s.data.toList[((s.size : Int) - 1).toNat]? = some c1 := by rw [← hc1]; congr 1; omega
  by_cases h2 : (c0.toNat : Int) ≠ 124
  · refine T.skip ?_; refine yq4 ?_; refine sv (PV.lenStr rfl) ?_; refine yq11 ?_; refine yq4 ?_; refine sv (PV.eql rfl rfl) ?_; refine sm ?_; refine T.setF (d := 19) rfl (by omega) ?_; refine gm ?_; refine gv (PV.indexStr rfl rfl (by omega) (by assumption)) ?_; refine gv (PV.neq rfl rfl) ?_; refine sF ?_; refine sm ?_; refine T.setT (d := 24) rfl (by omega) ?_; refine yq17 ?_; refine yq17 ?_; refine sp ?_; refine sT ?_; refine so ?_; refine T.condT rfl rfl ?_; refine zs3 ?_; refine sa ?_; refine yq0 ?_
    exact T.retF (Lv.fin (RV.tmp2 rfl rfl rfl) ⟨_, _, rfl, fun _ => hvs⟩)
  by_cases h3 : (c1.toNat : Int) ≠ 124
  · refine T.skip ?_; refine yq4 ?_; refine sv (PV.lenStr rfl) ?_; refine yq11 ?_; refine yq4 ?_; refine sv (PV.eql rfl rfl) ?_; refine sm ?_; refine T.setF (d := 19) rfl (by omega) ?_; refine gm ?_; refine gv (PV.indexStr rfl rfl (by omega) (by assumption)) ?_; refine gv (PV.neq rfl rfl) ?_; refine sF ?_; refine sm ?_; refine T.setF (d := 24) rfl (by omega) ?_; refine gm ?_; refine gm ?_; refine gv (PV.sub rfl rfl (by omega)) ?_; refine gv (PV.indexStr rfl rfl (by omega) (by assumption)) ?_; refine gv (PV.neq rfl rfl) ?_; refine sF ?_; refine so ?_; refine sC rfl (by omega) ?_; refine zs3 ?_; refine sa ?_; refine yq0 ?_
    exact T.retF (Lv.fin (RV.tmp2 rfl rfl rfl) ⟨_, _, rfl, fun _ => hvs⟩)
  refine T.skip ?_; refine yq4 ?_; refine sv (PV.lenStr rfl) ?_; refine yq11 ?_; refine yq4 ?_; refine sv (PV.eql rfl rfl) ?_; refine sm ?_; refine T.setF (d := 19) rfl (by omega) ?_; refine gm ?_; refine gv (PV.indexStr rfl rfl (by omega) (by assumption)) ?_; refine gv (PV.neq rfl rfl) ?_; refine sF ?_; refine sm ?_; refine T.setF (d := 24) rfl (by omega) ?_; refine gm ?_; refine gm ?_; refine gv (PV.sub rfl rfl (by omega)) ?_; refine gv (PV.indexStr rfl rfl (by omega) (by assumption)) ?_; refine gv (PV.neq rfl rfl) ?_; refine sF ?_; refine so ?_; refine sd rfl (by omega) ?_; refine T.skip ?_; refine zs3 ?_; refine yq14 ?_; refine yq11 ?_; refine zs3 ?_; refine yq0 ?_; refine T.block ?_; refine T.loopK [(5, Value.int IntKind.i64 (↑s.size : Int)), (0, Value.string s)] zq8 (γ := PaG) (fun g => g.f ≤ g.i ∧ g.i ≤ s.size ∧ RowV 9 encT 1 g.v g.lv g.l ∧ g.l.length ≤ g.i) (fun g => [(8, .int .i64 (g.i : Int)), (7, .int .i64 (g.f : Int)), (6, g.v)]) (fun g => g.lv) (fun _ => H) (fun g => s.size - g.i) ⟨1, 1, .slice none 0 0, [], []⟩ ⟨by simp, by dsimp only; omega, Vec.nil _ _, by simp⟩ zq8 (by repeat (first | exact Sel.refl _ | exact Sel.nil | (refine Sel.cons zq1 ?_) | (refine Sel.app zq1 ?_) | exact Sel.one zq1)) rfl ?_
  rintro ⟨i, f, v, lv, l⟩ ⟨g1, g2, g3, g4⟩
  dsimp only at g1 g2 g3 g4 ⊢
  obtain ⟨ad, cap, rfl⟩ := g3.val
  by_cases hi : i < s.size
  · obtain ⟨c, hc⟩ := byteAt hi
    have hc' : s.data.toList[((i : Nat) : Int).toNat]? = some c := by rw [Int.toNat_natCast]; exact hc
    by_cases h4 : (c.toNat : Int) ≠ 124
    · refine sq ?_; refine yq4 ?_; refine sm ?_; refine yq2 ?_; refine sC rfl (by omega) ?_; refine yq25 ?_; refine sq ?_; refine yq4 ?_; refine sm ?_; refine sv (PV.indexStr rfl rfl (by omega) (by assumption)) ?_; refine yq29 ?_; refine sC rfl (by omega) ?_; refine T.exit rfl ?_; refine sr ?_; refine sm ?_; refine sv (PV.add rfl rfl (by omega)) ?_; refine yq0 ?_
      exact T.nextP ⟨i + 1, f, _, lv, l⟩ ⟨by dsimp only; omega, by dsimp only; omega, g3, by dsimp only; omega⟩ (by dsimp only; omega) zq8 (by repeat (first | exact Sel.refl _ | exact Sel.nil | (refine Sel.cons zq1 ?_) | (refine Sel.app zq1 ?_) | exact Sel.one zq1)) rfl
    · by_cases h5 : i = f
      · refine sq ?_; refine yq4 ?_; refine sm ?_; refine yq2 ?_; refine sC rfl (by omega) ?_; refine yq25 ?_; refine sq ?_; refine yq4 ?_; refine sm ?_; refine sv (PV.indexStr rfl rfl (by omega) (by assumption)) ?_; refine yq29 ?_; refine sd rfl (by omega) ?_; refine T.skip ?_; refine sq ?_; refine yq4 ?_; refine sm ?_; refine sv (PV.eql rfl rfl) ?_; refine so ?_; refine sC rfl (by omega) ?_; refine zs3 ?_; refine sa ?_; refine yq0 ?_
        exact T.retF (Lv.fin (RV.tmp2 rfl rfl rfl) ⟨_, _, rfl, fun _ => hvs⟩)
      · refine sq ?_; refine yq4 ?_; refine sm ?_; refine yq2 ?_; refine sC rfl (by omega) ?_; refine yq25 ?_; refine sq ?_; refine yq4 ?_; refine sm ?_; refine sv (PV.indexStr rfl rfl (by omega) (by assumption)) ?_; refine yq29 ?_; refine sd rfl (by omega) ?_; refine T.skip ?_; refine sq ?_; refine yq4 ?_; refine sm ?_; refine sv (PV.eql rfl rfl) ?_; refine so ?_; refine sd rfl (by omega) ?_; refine T.skip ?_; refine yq4 ?_; refine sm ?_; refine sm ?_; refine sm ?_; refine sv (PV.sliceStr rfl rfl rfl (by omega)) ?_; (refine T.buildSlice Wanted.none rfl rfl zq11 (by exact rfl) (by exact rfl) ?_; intro b48); (refine T.appendP (lv := lv) Wanted.none rfl rfl rfl g3 (Src.cells (m := 1) (ys := encT _) (.own zq2) rfl rfl) (one_encT _) (by omega) zq1 ?_; intro v49 lv49 hv49 _); refine sa ?_; refine zs2 ?_; refine sm ?_; refine sv (PV.add rfl rfl (by omega)) ?_; refine sa ?_
        refine so ?_; refine T.blkEnd ?_; refine sr ?_; refine sm ?_; refine sv (PV.add rfl rfl (by omega)) ?_; refine yq0 ?_
        exact T.nextP ⟨i + 1, i + 1, v49, lv49, _⟩ ⟨by dsimp only; omega, by dsimp only; omega, RowV.snoc hv49, by rw [List.length_append]; simp only [List.length_singleton]; omega⟩ (by dsimp only; omega) zq8 (by repeat (first | exact Sel.refl _ | exact Sel.nil | (refine Sel.cons zq1 ?_) | (refine Sel.app zq1 ?_) | exact Sel.one zq1)) rfl
  · refine sq ?_; refine yq4 ?_; refine sm ?_; refine yq2 ?_; refine yq21 ?_; refine sq ?_; refine zs3 ?_; refine yq0 ?_; refine T.block ?_; refine T.loopK [(6, Value.slice ad l.length cap)] zq8 (γ := Nat) (fun i => 1 ≤ i) (fun i => [(9, .int .i64 (i : Int))]) (fun _ => lv) (fun _ => H) (fun i => l.length - i) 1 (Nat.le_refl 1) zq8 (by repeat (first | exact Sel.refl _ | exact Sel.nil | (refine Sel.cons zq1 ?_) | (refine Sel.app zq1 ?_) | exact Sel.one zq1)) rfl ?_
    intro j hj0
    by_cases hj : j < l.length
    · obtain ⟨b, capb, hve⟩ := g3.ptr (by omega)
      injection hve with e1 e2 e3
      subst e1 e3
      obtain ⟨s1, _, _, hs1⟩ := flat_at (f := fun s : ByteArray => Value.string s) (l := l) (n := (j : Int)) (by omega)
      obtain ⟨s2, _, _, hs2⟩ := flat_at (f := fun s : ByteArray => Value.string s) (l := l) (n := (j : Int) - 1) (by omega)
      refine sq ?_; refine yq4 ?_; refine sm ?_; refine sv (PV.lenSl rfl) ?_; refine yq2 ?_; refine sC rfl (by omega) ?_; refine yq25 ?_; refine sq ?_; refine yq10 ?_; refine TQ.pv (PV.move rfl) Wanted.none rfl rfl ?_; refine TQ.pv (PV.sub rfl rfl (by omega)) Wanted.none rfl rfl ?_; refine TQ.pv (PV.indexAddr rfl rfl (by omega)) Wanted.none rfl rfl ?_; refine TQ.pv (PV.loadVec rfl (by assumption) zq4 (by assumption)) Wanted.none rfl rfl ?_; refine TQ.pv (PV.move rfl) Wanted.none rfl rfl ?_; refine yq18 ?_; refine TQ.pv (PV.loadVec rfl (by assumption) zq4 (by assumption)) Wanted.none rfl rfl ?_; refine TQ.pv (PV.sgeq rfl rfl) Wanted.none rfl rfl ?_; refine TQ.nil ?_
      refine T.cond rfl (fun hc => ?_) (fun hc => ?_)
      · refine zs3 ?_; refine sa ?_; refine yq0 ?_
        exact T.retF (Lv.fin (RV.tmp2 rfl rfl rfl) ⟨_, _, rfl, fun _ => hvs⟩)
      · refine T.skip ?_; refine T.blkEnd ?_; refine sr ?_; refine sm ?_; refine sv (PV.add rfl rfl (by omega)) ?_; refine yq0 ?_
        exact T.nextP (j + 1) (by omega) (by omega) zq8 (by repeat (first | exact Sel.refl _ | exact Sel.nil | (refine Sel.cons zq1 ?_) | (refine Sel.app zq1 ?_) | exact Sel.one zq1)) rfl
    · refine sq ?_; refine yq4 ?_; refine sm ?_; refine sv (PV.lenSl rfl) ?_; refine yq2 ?_; refine yq21 ?_; refine yq4 ?_; refine sa ?_; refine yq0 ?_
      exact T.retF (Lv.fin (RV.tmp2 rfl rfl rfl) ⟨_, _, rfl, fun _ => hvs⟩)
theorem valueA_fn (nm : ByteArray) (b : Bool) (s : ByteArray) (H : Hp) : Fn Tryz.prog 127 #[.agg #[.string nm, .bool b], .string s] H (fun u _ => ErrV s u) := by
  refine Fn.of_T (vs := [.agg #[.string nm, .bool b], .string s]) Tryz.func127 rfl rfl fun w => ?_
  cases b
  · refine zs3 ?_; (refine T.box Wanted.none rfl rfl zq15 ?_; intro b2); refine yq11 ?_; refine zs3 ?_; refine yq6 ?_; refine so ?_; refine yq7 ?_; refine yq4 ?_; refine T.callX Wanted.none rfl rfl (validValueA_fn s H) ?_
    rintro _ ⟨n, rfl, hn⟩
    refine yq0 ?_
    exact T.retF (Lv.fin (RV.tmp rfl rfl) ⟨_, rfl, hn⟩)
  · refine zs3 ?_; (refine T.box Wanted.none rfl rfl zq15 ?_; intro b2); refine yq11 ?_; refine zs3 ?_; refine yq6 ?_; refine so ?_; refine T.condT rfl rfl ?_; refine yq4 ?_; refine T.callX Wanted.none rfl rfl (parseA_fn s H) ?_
    rintro _ ⟨v, n, rfl, hn⟩
    refine sm ?_; refine yq19 ?_; refine sa ?_; refine yq28 ?_; refine yq0 ?_
    exact T.retF (Lv.fin (RV.tmp rfl rfl) ⟨_, rfl, hn⟩)
theorem pairsA_fn (l : List (ByteArray × ByteArray)) (v : Value) (H : Hp) (hv : PrA H v l) : Fn Tryz.prog 128 #[v] H (fun u _ => IsI u) := by
  obtain ⟨ad, cap, rfl⟩ := hv.1.len
  refine Fn.of_T (vs := [.slice ad l.length cap]) Tryz.func128 rfl rfl fun w => ?_
  by_cases h1 : 8 < l.length
  · refine zs3 ?_; refine yq11 ?_; refine yq30 ?_; refine sv (PV.gtr rfl rfl) ?_; refine so ?_; refine sC rfl (by omega) ?_; refine zs3 ?_; refine yq0 ?_
    exact T.retF (Lv.fin (RV.tmp rfl rfl) ⟨_, rfl⟩)
  refine zs3 ?_; refine yq11 ?_; refine yq30 ?_; refine sv (PV.gtr rfl rfl) ?_; refine so ?_; refine sd rfl (by omega) ?_; refine T.skip ?_; refine sq ?_; refine yq30 ?_; refine yq35 ?_; refine T.loopR [(10, Value.int IntKind.i64 (↑l.length : Int)), (9, Value.slice ad l.length cap), (0, Value.slice ad l.length cap)] zq8 11 l.length rfl ?_
  intro i hi0
  by_cases hi : i < l.length
  · obtain ⟨p, hp⟩ : ∃ z, l[i]? = some z := ⟨_, List.getElem?_eq_getElem hi⟩
    obtain ⟨b, off, rfl, hsub⟩ := RowL.at encPr_len hv.1 hp
    unfold encPr at hsub
    by_cases h0 : 0 < i
    · obtain ⟨p0, hp0⟩ : ∃ z, l[i - 1]? = some z := ⟨_, List.getElem?_eq_getElem (by omega)⟩
      have hsub0 := RowL.atP encPr_len hv.1 hp0
      unfold encPr at hsub0
      have hcast : ((i : Int) - 1).toNat = i - 1 := by omega
      have hsub1 : SubC H b (off + ((i : Int) - 1).toNat * 2) [.string p0.1, .string p0.2] := by rw [hcast]; exact hsub0
      refine yq16 ?_; refine sC rfl (by omega) ?_; refine yq25 ?_; refine yq4 ?_; refine yq5 ?_; refine sy fun b4 => ?_; refine sa ?_; refine yq9 ?_; refine yq20 ?_; refine zs3 ?_; refine yq6 ?_; (refine T.callX Wanted.none rfl rfl ((name4_fn _ _).mono (R' := fun u _ => IsB u) fun u _ h => ⟨_, h⟩) ?_; rintro _ ⟨b19, rfl⟩); refine sv (PV.not rfl) ?_; refine yq0 ?_
      refine T.cond rfl (fun h0 => ?_) (fun h0 => ?_)
      · refine zs3 ?_; refine yq0 ?_
        (first | exact T.retF (Lv.fin (RV.tmp rfl rfl) ⟨_, rfl⟩) | exact T.nextR (by omega) rfl zq8 (by repeat (first | exact Sel.refl _ | exact Sel.nil | (refine Sel.cons zq1 ?_) | (refine Sel.app zq1 ?_) | exact Sel.one zq1)))
      · refine sq ?_; refine yq10 ?_; refine TQ.pv (PV.gtr rfl rfl) Wanted.none rfl rfl ?_; refine TQ.pv (PV.move rfl) Wanted.none rfl rfl ?_; refine TQ.setT (d := 24) rfl (by omega) ?_; refine TQ.pv (PV.move rfl) (Wanted.guard rfl rfl rfl) rfl rfl ?_; refine TQ.pv (PV.move rfl) (Wanted.guard rfl rfl rfl) rfl rfl ?_; refine TQ.pv (PV.sub rfl rfl (by omega)) (Wanted.guard rfl rfl rfl) rfl rfl ?_; refine TQ.pv (PV.indexAddr rfl rfl (by omega)) (Wanted.guard rfl rfl rfl) rfl rfl ?_; refine TQ.pv (PV.fieldAddr rfl) (Wanted.guard rfl rfl rfl) rfl rfl ?_; refine TQ.pv (PV.loadSub rfl (by assumption) rfl) (Wanted.guard rfl rfl rfl) rfl rfl ?_; refine yq24 ?_; refine TQ.pv (PV.sgeq rfl rfl) (Wanted.guard rfl rfl rfl) rfl rfl ?_; refine TQ.pv (PV.pickT rfl rfl rfl) Wanted.none rfl rfl ?_; refine yq34 ?_
        refine T.cond rfl (fun h1 => ?_) (fun h1 => ?_)
        · refine zs3 ?_; refine yq0 ?_
          (first | exact T.retF (Lv.fin (RV.tmp rfl rfl) ⟨_, rfl⟩) | exact T.nextR (by omega) rfl zq8 (by repeat (first | exact Sel.refl _ | exact Sel.nil | (refine Sel.cons zq1 ?_) | (refine Sel.app zq1 ?_) | exact Sel.one zq1)))
        · refine T.skip ?_; refine T.blkEnd ?_; refine zs3 ?_; refine yq6 ?_; (refine T.callX Wanted.none rfl rfl (validValue_fn _ _) ?_; rintro _ ⟨n37, rfl⟩); refine yq28 ?_; refine yq29 ?_
          refine T.condD rfl (fun h2 => ?_) (fun h2 => ?_)
          · refine yq4 ?_; refine yq0 ?_
            (first | exact T.retF (Lv.fin (RV.tmp rfl rfl) ⟨_, rfl⟩) | exact T.nextR (by omega) rfl zq8 (by repeat (first | exact Sel.refl _ | exact Sel.nil | (refine Sel.cons zq1 ?_) | (refine Sel.app zq1 ?_) | exact Sel.one zq1)))
          · refine T.skip ?_; refine yq33 ?_; refine yq23 ?_
            (first | exact T.retF (Lv.fin (RV.tmp rfl rfl) ⟨_, rfl⟩) | exact T.nextR (by omega) rfl zq8 (by repeat (first | exact Sel.refl _ | exact Sel.nil | (refine Sel.cons zq1 ?_) | (refine Sel.app zq1 ?_) | exact Sel.one zq1)))
    · refine yq16 ?_; refine sC rfl (by omega) ?_; refine yq25 ?_; refine yq4 ?_; refine yq5 ?_; refine sy fun b4 => ?_; refine sa ?_; refine yq9 ?_; refine yq20 ?_; refine zs3 ?_; refine yq6 ?_; (refine T.callX Wanted.none rfl rfl ((name4_fn _ _).mono (R' := fun u _ => IsB u) fun u _ h => ⟨_, h⟩) ?_; rintro _ ⟨b19, rfl⟩); refine sv (PV.not rfl) ?_; refine yq0 ?_
      refine T.cond rfl (fun h0 => ?_) (fun h0 => ?_)
      · refine zs3 ?_; refine yq0 ?_
        (first | exact T.retF (Lv.fin (RV.tmp rfl rfl) ⟨_, rfl⟩) | exact T.nextR (by omega) rfl zq8 (by repeat (first | exact Sel.refl _ | exact Sel.nil | (refine Sel.cons zq1 ?_) | (refine Sel.app zq1 ?_) | exact Sel.one zq1)))
      · refine sq ?_; refine yq10 ?_; refine TQ.pv (PV.gtr rfl rfl) Wanted.none rfl rfl ?_; refine TQ.pv (PV.move rfl) Wanted.none rfl rfl ?_; refine TQ.setF (d := 24) rfl (by omega) ?_; refine yq3 ?_; refine yq3 ?_; refine yq3 ?_; refine yq3 ?_; refine TQ.pass (Unwanted.guard rfl rfl rfl) rfl rfl ?_; refine TQ.pv (PV.pickF rfl rfl rfl) Wanted.none rfl rfl ?_; refine yq34 ?_; refine yq7 ?_; refine T.blkEnd ?_; refine zs3 ?_; refine yq6 ?_; (refine T.callX Wanted.none rfl rfl (validValue_fn _ _) ?_; rintro _ ⟨n37, rfl⟩); refine yq28 ?_; refine yq29 ?_
        refine T.condD rfl (fun h1 => ?_) (fun h1 => ?_)
        · refine yq4 ?_; refine yq0 ?_
          (first | exact T.retF (Lv.fin (RV.tmp rfl rfl) ⟨_, rfl⟩) | exact T.nextR (by omega) rfl zq8 (by repeat (first | exact Sel.refl _ | exact Sel.nil | (refine Sel.cons zq1 ?_) | (refine Sel.app zq1 ?_) | exact Sel.one zq1)))
        · refine T.skip ?_; refine yq33 ?_; refine yq23 ?_
          (first | exact T.retF (Lv.fin (RV.tmp rfl rfl) ⟨_, rfl⟩) | exact T.nextR (by omega) rfl zq8 (by repeat (first | exact Sel.refl _ | exact Sel.nil | (refine Sel.cons zq1 ?_) | (refine Sel.app zq1 ?_) | exact Sel.one zq1)))
  · refine yq16 ?_; refine yq21 ?_; refine zs3 ?_; refine yq0 ?_
    exact T.retF (Lv.fin (RV.tmp rfl rfl) ⟨_, rfl⟩)
/-- names that are all different -/
def distN (l : List (ByteArray × Bool)) (n : Nat) : Prop := ∀ (i j : Nat) (a b : ByteArray × Bool), j < i → i < n → l[i]? = some a → l[j]? = some b → a.1 ≠ b.1
def distK (l : List (ByteArray × Bool)) (i n : Nat) : Prop := ∀ (j : Nat) (a b : ByteArray × Bool), j < n → l[i]? = some a → l[j]? = some b → a.1 ≠ b.1
theorem attributesA_fn (l : List (ByteArray × Bool)) (v : Value) (H : Hp) (hv : SlR H 2 v l.length (l.flatMap encAt)) : Fn Tryz.prog 62 #[v] H (fun u _ => ∃ n m : Int, u = .tuple #[.int .i64 n, .int .i64 m] ∧ (m = 0 → distN l l.length ∧ ∀ x ∈ l, x.1 ≠ ⟨#[]⟩)) := by
  obtain ⟨ad, cap, rfl⟩ := hv.len
  have hcap := hv.cap
  refine Fn.of_T (vs := [.slice ad l.length cap]) Tryz.func62 rfl rfl fun w => ?_
  by_cases h0 : l.length = 0
  · refine zs3 ?_; refine sa ?_; refine yq11 ?_; refine yq30 ?_; refine sv (PV.eql rfl rfl) ?_; refine so ?_; refine sC rfl (by omega) ?_; refine zs3 ?_; refine sa ?_; refine yq0 ?_
    exact T.retF (Lv.fin (RV.tmp2 rfl rfl rfl) ⟨_, _, rfl, fun h => by cases h⟩)
  by_cases h1 : 8 < l.length
  · refine zs3 ?_; refine sa ?_; refine yq11 ?_; refine yq30 ?_; refine sv (PV.eql rfl rfl) ?_; refine so ?_; refine sd rfl (by omega) ?_; refine T.skip ?_; refine sq ?_; refine yq30 ?_; refine sv (PV.gtr rfl rfl) ?_; refine so ?_; refine sC rfl (by omega) ?_; refine zs3 ?_; refine sa ?_; refine yq0 ?_
    exact T.retF (Lv.fin (RV.tmp2 rfl rfl rfl) ⟨_, _, rfl, fun h => by cases h⟩)
  refine zs3 ?_; refine sa ?_; refine yq11 ?_; refine yq30 ?_; refine sv (PV.eql rfl rfl) ?_; refine so ?_; refine sd rfl (by omega) ?_; refine T.skip ?_; refine sq ?_; refine yq30 ?_; refine sv (PV.gtr rfl rfl) ?_; refine so ?_; refine sd rfl (by omega) ?_; refine T.skip ?_; refine sq ?_; refine yq30 ?_; refine yq35 ?_; refine T.loopC [(15, Value.int IntKind.i64 (↑l.length : Int)), (14, Value.slice ad l.length cap), (0, Value.slice ad l.length cap)] zq8 16 l.length (fun i => distN l i ∧ ∀ (j : Nat) (a : ByteArray × Bool), j < i → l[j]? = some a → a.1 ≠ ⟨#[]⟩) ⟨fun _ _ _ _ _ h => absurd h (by omega), fun _ _ h => absurd h (by omega)⟩ rfl ?_
  rintro i ⟨hi0, hd, hne⟩
  by_cases hi : i < l.length
  · obtain ⟨b, off, ⟨nm, st⟩, rfl, hx, hsub⟩ := RowL.get encAt_len hv hi
    unfold encAt at hsub
    refine yq16 ?_; refine sC rfl (by omega) ?_; refine yq25 ?_; refine yq4 ?_; refine yq5 ?_; refine sy fun b5 => ?_; refine sa ?_; refine yq9 ?_; refine sq ?_; refine zs3 ?_; refine yq6 ?_; refine T.callX Wanted.none rfl rfl ((name4_fn _ _).mono (R' := fun u _ => ∃ q, u = .bool q ∧ (q = true → nm ≠ ⟨#[]⟩)) fun u _ h => ⟨_, h, fun h2 h3 => by subst h3; exact absurd h2 (show ¬ validName ⟨#[]⟩ = true by decide)⟩) ?_
    rintro _ ⟨q, rfl, hq0⟩
    refine sv (PV.not rfl) ?_; refine so ?_
    refine T.cond rfl (fun hc => ?_) (fun hc => ?_)
    · refine yq4 ?_; refine sa ?_; refine yq0 ?_
      exact T.retF (Lv.fin (RV.tmp2 rfl rfl rfl) ⟨_, _, rfl, fun h => by cases h⟩)
    refine T.skip ?_; refine yq4 ?_; refine sm ?_; refine sv (PV.sliceH rfl rfl (by omega)) ?_; refine sv (PV.lenSl rfl) ?_; refine yq35 ?_; refine T.loopC [(29, Value.int IntKind.i64 (↑(↑i : Int).toNat : Int)), (28, Value.slice (some { block := b, off := off }) (↑i : Int).toNat cap), (4, Value.int IntKind.i64 (↑i : Int)), (5, Value.pointer (some { block := b5, off := 0 })), (16, Value.int IntKind.i64 (↑i : Int)), (15, Value.int IntKind.i64 (↑l.length : Int)), (14, Value.slice (some { block := b, off := off }) l.length cap), (0, Value.slice (some { block := b, off := off }) l.length cap)] zq8 30 i (fun j => distK l i j) (fun _ _ _ h => absurd h (by omega)) rfl ?_
    rintro j ⟨hj0, hk⟩
    by_cases hj : j < i
    · obtain ⟨_, _, ⟨nm2, st2⟩, e, hx2, hsub2⟩ := RowL.get encAt_len hv (i := j) (by omega)
      injection e with e
      injection e with e1 e2
      subst e1 e2
      unfold encAt at hsub2
      by_cases hq : nm = nm2
      · have hdq : decide (nm = nm2) = true := decide_eq_true hq
        refine yq16 ?_; refine sC rfl (by omega) ?_; refine yq25 ?_; refine zs3 ?_; refine yq5 ?_; refine sy fun b7 => ?_; refine yq13 ?_; refine yq6 ?_; refine yq6 ?_; refine sv (PV.seql rfl rfl) ?_; refine so ?_; refine T.condT rfl (by assumption) ?_; refine yq4 ?_; refine sa ?_; refine yq0 ?_
        exact T.retF (Lv.fin (RV.tmp2 rfl rfl rfl) ⟨_, _, rfl, fun h => by cases h⟩)
      · have hdq : decide (nm = nm2) = false := decide_eq_false hq
        refine yq16 ?_; refine sC rfl (by omega) ?_; refine yq25 ?_; refine zs3 ?_; refine yq5 ?_; refine sy fun b7 => ?_; refine yq13 ?_; refine yq6 ?_; refine yq6 ?_; refine sv (PV.seql rfl rfl) ?_; refine so ?_; refine T.condF rfl (by assumption) ?_; refine T.skip ?_; refine yq33 ?_; refine yq23 ?_
        refine T.nextC hj (fun k a b hkj ha hb => ?_) rfl zq8 (by repeat (first | exact Sel.refl _ | exact Sel.nil | (refine Sel.cons zq1 ?_) | (refine Sel.app zq1 ?_) | exact Sel.one zq1))
        by_cases hkk : k < j
        · exact hk k a b hkk ha hb
        · obtain rfl : k = j := by omega
          rw [hx] at ha; rw [hx2] at hb
          cases ha; cases hb
          exact hq
    · refine yq16 ?_; refine yq21 ?_; refine yq33 ?_; refine yq23 ?_
      refine T.nextC hi ⟨fun k m a b hmk hk1 ha hb => ?_, fun k a hk1 ha => ?_⟩ rfl zq8 (by repeat (first | exact Sel.refl _ | exact Sel.nil | (refine Sel.cons zq1 ?_) | (refine Sel.app zq1 ?_) | exact Sel.one zq1))
      · by_cases hkk : k < i
        · exact hd k m a b hmk hkk ha hb
        · obtain rfl : k = i := by omega
          exact hk m a b (by omega) ha hb
      · by_cases hkk : k < i
        · exact hne k a hkk ha
        · obtain rfl : k = i := by omega
          rw [hx] at ha; cases ha
          exact hq0 (by simpa using hc)
  · refine yq16 ?_; refine yq21 ?_; refine zs3 ?_; refine sa ?_; refine yq0 ?_
    exact T.retF (Lv.fin (RV.tmp2 rfl rfl rfl) ⟨_, _, rfl, fun _ => by
      obtain rfl : i = l.length := by omega
      refine ⟨hd, fun x hx => ?_⟩
      obtain ⟨j, hj⟩ := List.getElem?_of_mem hx
      exact hne j x (List.getElem?_eq_some_iff.1 hj).1 hj⟩)

end Go.Proofs.YtbcadnjfegiakaaGreatDoor
namespace Go.Proofs.YtbcadnjfegiakaaGreatDoor
open Go.RowKit


/-- the first index at which a test holds, or -1 -/
def ixI {α : Type} (g : α → Bool) (l : List α) : Int := if l.any g = true then (l.findIdx g : Int) else -1
theorem ixI_hit {α : Type} {g : α → Bool} {l : List α} {i : Nat} {x : α} (h : (l.take i).any g = false) (hx : l[i]? = some x) (hg : g x = true) : ixI g l = (i : Int) := by
  have hi := (List.getElem?_eq_some_iff.1 hx).1
  have hxe := (List.getElem?_eq_some_iff.1 hx).2
  have ha : l.any g = true := List.any_eq_true.2 ⟨x, List.mem_of_getElem? hx, hg⟩
  unfold ixI
  rw [if_pos ha]
  congr 1
  rw [List.findIdx_eq hi]
  refine ⟨by rw [hxe]; exact hg, fun j hj => ?_⟩
  have hj2 : (l.take i)[j]? = some l[j] := by rw [List.getElem?_take, if_pos hj]; exact List.getElem?_eq_getElem (by omega)
  cases hgj : g l[j]
  · rfl
  · rw [List.any_eq_true.2 ⟨_, List.mem_of_getElem? hj2, hgj⟩] at h
    exact absurd h (by simp)
theorem ixI_miss {α : Type} {g : α → Bool} {l : List α} (h : l.any g = false) : ixI g l = -1 := by
  unfold ixI
  rw [h, if_neg (by simp)]
theorem ixI_cases {α : Type} (g : α → Bool) (l : List α) : (ixI g l = -1 ∧ l.any g = false) ∨ ∃ i x, ixI g l = ((i : Nat) : Int) ∧ l[i]? = some x ∧ g x = true ∧ (l.take i).any g = false := by
  cases h : l.any g
  · exact .inl ⟨ixI_miss h, rfl⟩
  · obtain ⟨x, hx, hg⟩ := List.any_eq_true.1 h
    have hlt : l.findIdx g < l.length := List.findIdx_lt_length_of_exists ⟨x, hx, hg⟩
    refine .inr ⟨l.findIdx g, l[l.findIdx g], by unfold ixI; rw [if_pos h], List.getElem?_eq_getElem hlt, List.findIdx_getElem, ?_⟩
    cases ha : (l.take (l.findIdx g)).any g
    · rfl
    · obtain ⟨y, hy, hgy⟩ := List.any_eq_true.1 ha
      obtain ⟨j, hj, hye⟩ := List.getElem_of_mem hy
      rw [List.length_take] at hj
      rw [List.getElem_take] at hye
      have := List.not_of_lt_findIdx (p := g) (xs := l) (i := j) (by omega)
      rw [hye, hgy] at this
      exact absurd this (by simp)
theorem ixI_drop {α : Type} {g : α → Bool} {l : List α} {i : Nat} {x : α} (h : (l.take i).any g = false) (hx : l[i]? = some x) (hg : g x = false) : (l.take (i + 1)).any g = false := by
  rw [List.take_add_one, hx, List.any_append, h]
  simpa using hg
end Go.Proofs.YtbcadnjfegiakaaGreatDoor
namespace Go.Proofs.YtbcadnjfegiakaaGreatDoor
open Go.RowKit


end Go.Proofs.YtbcadnjfegiakaaGreatDoor
