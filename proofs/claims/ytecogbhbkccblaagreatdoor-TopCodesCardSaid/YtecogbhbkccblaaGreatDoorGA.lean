/- any corpus in memory that is only read: names, values, attributes are looked at.
   lines: the first index of an element; attributes; the text of a token; whether a match fits.
   a condition on a feature: measured, loosened, well formed. -/
import Derived.Test.YtecogbhbkccblaaGreatDoorG8
set_option maxRecDepth 4000
set_option maxHeartbeats 40000000
set_option linter.all false
namespace Go.Proofs.YtecogbhbkccblaaGreatDoor
open Go.RowKit


def PrA (H : Hp) (v : Value) (l : List (ByteArray × ByteArray)) : Prop := SlR H 2 v l.length (l.flatMap encPr) ∧ l.length ≤ 9223372036854775807
def RgA (H : Hp) (r : Rg) : Prop := PrA H r.kv r.ks
def RgAL (H : Hp) (v : Value) (l : List Rg) : Prop := SlR H 4 v l.length (l.flatMap encRg) ∧ ∀ r ∈ l, RgA H r
def TkA (H : Hp) (t : Tk) : Prop := StL H t.v t.ss ∧ t.ss.length ≤ 9223372036854775807
theorem PrA.mono {H H' : Hp} {v : Value} {l : List (ByteArray × ByteArray)} (h : PrA H v l) (hl : H.le H') : PrA H' v l := ⟨h.1.mono hl, h.2⟩
theorem RgA.mono {H H' : Hp} {r : Rg} (h : RgA H r) (hl : H.le H') : RgA H' r := PrA.mono h hl
theorem RgAL.mono {H H' : Hp} {v : Value} {l : List Rg} (h : RgAL H v l) (hl : H.le H') : RgAL H' v l := ⟨h.1.mono hl, fun r hr => (h.2 r hr).mono hl⟩
theorem TkA.mono {H H' : Hp} {t : Tk} (h : TkA H t) (hl : H.le H') : TkA H' t := ⟨h.1.mono hl, h.2⟩
/-- a corpus in memory that is only read, of few elements -/
structure CpA (H : Hp) (c : Cp) : Prop where
  a : SlR H 2 c.va c.att.length (c.att.flatMap encAt)
  t : SlR H 1 c.vt c.tk.length (c.tk.flatMap encTk)
  x : RgAL H c.vx c.tx
  r : RgAL H c.vr c.rg
  n : NdL H c.vn c.nd
  h : InL H c.vh c.hd
  s : StL H c.vs c.rl
  tO : ∀ t ∈ c.tk, TkA H t
  la : c.att.length ≤ 1000
  lt : c.tk.length ≤ 1000
  lx : c.tx.length ≤ 1000
  lr : c.rg.length ≤ 1000
  ln : c.nd.length ≤ 1000
  lh : c.hd.length ≤ 9223372036854775807
  ls : c.rl.length ≤ 9223372036854775807
theorem CpA.mono {H H' : Hp} {c : Cp} (h : CpA H c) (hl : H.le H') : CpA H' c :=
  ⟨h.a.mono hl, h.t.mono hl, h.x.mono hl, h.r.mono hl, h.n.mono hl, h.h.mono hl, h.s.mono hl, fun t ht => (h.tO t ht).mono hl, h.la, h.lt, h.lx, h.lr, h.ln, h.lh, h.ls⟩
theorem CpA.open {H : Hp} {c : Cp} (hc : CpA H c) : ∃ aa ca at1 ct ax cx ar cr an cn ah ch as1 cs, cpV c = .agg #[.slice aa c.att.length ca, .slice at1 c.tk.length ct, .slice ax c.tx.length cx, .slice ar c.rg.length cr, .slice an c.nd.length cn, .slice ah c.hd.length ch, .slice as1 c.rl.length cs] ∧
    SlR H 2 (.slice aa c.att.length ca) c.att.length (c.att.flatMap encAt) ∧ SlR H 1 (.slice at1 c.tk.length ct) c.tk.length (c.tk.flatMap encTk) ∧ RgAL H (.slice ax c.tx.length cx) c.tx ∧ RgAL H (.slice ar c.rg.length cr) c.rg ∧
    NdL H (.slice an c.nd.length cn) c.nd ∧ InL H (.slice ah c.hd.length ch) c.hd ∧ StL H (.slice as1 c.rl.length cs) c.rl := by
  obtain ⟨aa, ca, h1⟩ := hc.a.len
  obtain ⟨at1, ct, h2⟩ := hc.t.len
  obtain ⟨ax, cx, h3⟩ := hc.x.1.len
  obtain ⟨ar, cr, h4⟩ := hc.r.1.len
  obtain ⟨an, cn, h5⟩ := hc.n.len
  obtain ⟨ah, ch, h6⟩ := hc.h.len
  obtain ⟨as1, cs, h7⟩ := hc.s.len
  exact ⟨aa, ca, at1, ct, ax, cx, ar, cr, an, cn, ah, ch, as1, cs, by unfold cpV; rw [h1, h2, h3, h4, h5, h6, h7], h1 ▸ hc.a, h2 ▸ hc.t, h3 ▸ hc.x, h4 ▸ hc.r, h5 ▸ hc.n, h6 ▸ hc.h, h7 ▸ hc.s⟩
theorem cmpRegA_fn (x y : Rg) (H : Hp) (hx : RgA H x) (hy : RgA H y) : Fn Tryz.prog 155 #[rgV x, rgV y] H (fun u _ => u = .int .i64 (cmpRg x y)) := by
  refine Fn.of_T (vs := [rgV x, rgV y]) Tryz.func155 rfl rfl fun w => ?_
  unfold rgV
  obtain ⟨xt, xb, xe, xv, xk⟩ := x
  obtain ⟨yt, yb, ye, yv, yk⟩ := y
  obtain ⟨hx1, hx2⟩ := hx
  obtain ⟨hy1, hy2⟩ := hy
  unfold cmpRg
  dsimp only at hx1 hx2 hy1 hy2 ⊢
  obtain ⟨ax, cx, rfl⟩ := hx1.len
  obtain ⟨ay, cy, rfl⟩ := hy1.len
  by_cases h1 : xb ≠ yb
  · rw [if_pos h1]
    refine zs3 ?_; (refine T.box Wanted.none rfl rfl zq15 ?_; intro b2); (refine T.box Wanted.none rfl rfl zq15 ?_; intro b3); refine J21 ?_; refine T.callV Wanted.none rfl rfl (sign_fn _ _) ?_; refine J2 ?_
    exact T.retF (Lv.fin (RV.tmp rfl rfl) (by simp))
  rw [if_neg h1]
  have h1' : xb = yb := by omega
  subst h1'
  by_cases h2 : xe ≠ ye
  · rw [if_pos h2]
    refine zs3 ?_; (refine T.box Wanted.none rfl rfl zq15 ?_; intro b2); (refine T.box Wanted.none rfl rfl zq15 ?_; intro b3); refine J31 ?_; refine T.callV Wanted.none rfl rfl (sign_fn _ _) ?_; refine J2 ?_
    exact T.retF (Lv.fin (RV.tmp rfl rfl) (by simp))
  rw [if_neg h2]
  have h2' : xe = ye := by omega
  subst h2'
  by_cases h3 : xt ≠ yt
  · rw [if_pos h3]
    have hd3 : decide (xt ≠ yt) = true := decide_eq_true h3
    refine zs3 ?_; (refine T.box Wanted.none rfl rfl zq15 ?_; intro b2); (refine T.box Wanted.none rfl rfl zq15 ?_; intro b3); refine J33 ?_; refine yq110 ?_; refine T.callV Wanted.none rfl rfl (scompare_fn _ _ _) ?_
    refine J2 ?_
    exact T.retF (Lv.fin (RV.tmp rfl rfl) rfl)
  rw [if_neg h3]
  have hd3 : decide (xt ≠ yt) = false := decide_eq_false h3
  refine zs3 ?_; (refine T.box Wanted.none rfl rfl zq15 ?_; intro b2); (refine T.box Wanted.none rfl rfl zq15 ?_; intro b3); refine J33 ?_; refine yq6 ?_; refine J7 ?_
  refine T.block ?_
  refine T.loop (γ := Nat) (fun i => i ≤ xk.length ∧ i ≤ yk.length ∧ cmpKeys (xk.drop i) (yk.drop i) = cmpKeys xk yk)
    (fun i => [(5, .int .i64 (i : Int)), (2, .pointer (some ⟨b2, 0, none⟩)), (3, .pointer (some ⟨b3, 0, none⟩))])
    (fun _ => [(b3, .cells #[.string yt, .int .i64 xb, .int .i64 xe, .slice ay yk.length cy] 110 (0, 0)), (b2, .cells #[.string xt, .int .i64 xb, .int .i64 xe, .slice ax xk.length cx] 110 (0, 0))]) (fun _ => H) (fun i => xk.length - i) 0 ⟨by simp, by simp, rfl⟩ zq8 zq4 rfl ?_
  rintro i ⟨hi, hi2, hi3⟩
  by_cases hix : i < xk.length
  · by_cases hiy : i < yk.length
    · obtain ⟨p, hp⟩ : ∃ z, xk[i]? = some z := ⟨_, List.getElem?_eq_getElem hix⟩
      obtain ⟨q, hq⟩ : ∃ z, yk[i]? = some z := ⟨_, List.getElem?_eq_getElem hiy⟩
      obtain ⟨bx, ox, rfl, hsx⟩ := RowL.at encPr_len hx1 hp
      obtain ⟨by', oy, rfl, hsy⟩ := RowL.at encPr_len hy1 hq
      unfold encPr at hsx hsy
      have hcn := scompare_fn p.1 q.1 H
      have hcv := scompare_fn p.2 q.2 H
      rw [cmpKeys_drop hp hq] at hi3
      by_cases h4 : p.1 ≠ q.1
      · rw [if_pos h4] at hi3
        have hd4 : decide (p.1 ≠ q.1) = true := decide_eq_true h4
        refine J9 ?_; refine T.setT (d := 46) rfl zO ?_; refine J13 ?_; refine yq70 ?_; refine I5 ?_; refine yq23 ?_; refine I5 ?_; refine yq23 ?_; refine I2 ?_; refine yq9 ?_; refine sq ?_; refine yq70 ?_
        refine I5 ?_; refine yq23 ?_; refine I5 ?_; refine yq23 ?_; refine TQ.callV Wanted.none rfl rfl (hcn) ?_; refine I2 ?_
        exact T.retF (Lv.fin (RV.tmp rfl rfl) (by rw [← hi3]))
      rw [if_neg h4] at hi3
      have hd4 : decide (p.1 ≠ q.1) = false := decide_eq_false h4
      by_cases h5 : p.2 ≠ q.2
      · rw [if_pos h5] at hi3
        have hd5 : decide (p.2 ≠ q.2) = true := decide_eq_true h5
        refine J9 ?_; refine T.setT (d := 46) rfl zO ?_; refine J13 ?_; refine yq70 ?_; refine I5 ?_; refine yq23 ?_; refine I5 ?_; refine yq23 ?_; refine I2 ?_; refine yq6 ?_; refine J2 ?_
        refine yq70 ?_; refine I5 ?_; refine yq23 ?_; refine I5 ?_; refine yq23 ?_; refine I2 ?_; refine yq9 ?_; refine sq ?_; refine yq70 ?_; refine I5 ?_; refine yq23 ?_; refine I5 ?_; refine yq23 ?_; refine TQ.callV Wanted.none rfl rfl (hcv) ?_; refine I2 ?_
        exact T.retF (Lv.fin (RV.tmp rfl rfl) (by rw [← hi3]))
      rw [if_neg h5] at hi3
      have hd5 : decide (p.2 ≠ q.2) = false := decide_eq_false h5
      refine J9 ?_; refine T.setT (d := 46) rfl zO ?_; refine J13 ?_; refine yq70 ?_; refine I5 ?_; refine yq23 ?_; refine I5 ?_; refine yq23 ?_; refine I2 ?_; refine yq6 ?_; refine J2 ?_
      refine yq70 ?_; refine I5 ?_; refine yq23 ?_; refine I5 ?_; refine yq23 ?_; refine I2 ?_; refine yq6 ?_; refine J7 ?_
      exact T.next (i + 1) ⟨by omega, by omega, hi3⟩ zO zq8 zq4 rfl
    · rw [cmpKeys_end zO hi hi2, if_pos zO, if_neg zO] at hi3
      have hsg := sign_fn (decide ((xk.length : Int) < yk.length)) H
      rw [decide_eq_false zO] at hsg
      have hlt : decide ((xk.length : Int) < yk.length) = false := decide_eq_false zO
      refine J9 ?_; refine T.setT (d := 46) rfl zO ?_; refine J30 ?_
      rw [hlt]
      refine T.callV Wanted.none rfl rfl hsg ?_; refine J2 ?_
      exact T.retF (Lv.fin (RV.tmp rfl rfl) (by rw [← hi3]; rfl))
  · rw [cmpKeys_end zO hi hi2] at hi3
    by_cases h6 : xk.length ≠ yk.length
    · rw [if_pos h6, if_pos zO] at hi3
      have hlt : decide ((xk.length : Int) < yk.length) = true := decide_eq_true zO
      refine J9 ?_; refine T.setF (d := 46) rfl zO ?_; refine J30 ?_
      rw [hlt]
      refine T.callV Wanted.none rfl rfl (sign_fn _ _) ?_; refine J2 ?_
      exact T.retF (Lv.fin (RV.tmp rfl rfl) (by rw [← hi3]; rfl))
    · rw [if_neg h6] at hi3
      refine J9 ?_; refine T.setF (d := 46) rfl zO ?_; refine J26 ?_
      exact T.retF (Lv.fin (RV.tmp rfl rfl) (by rw [← hi3]))
/-- a string that may be a value -/
def VvS (s : ByteArray) : Prop := s.size ≤ 120 ∧ validS s = true
/-- the error of a value; if there is none, the value is short and valid -/
def ErrV (s : ByteArray) (u : Value) : Prop := ∃ n : Int, u = .int .i64 n ∧ (n = 0 → VvS s)
theorem validValueA_fn (s : ByteArray) (H : Hp) : Fn Tryz.prog 202 #[.string s] H (fun u _ => ErrV s u) := by
  by_cases h1 : 120 < s.size
  · refine Fn.of_T (vs := [.string s]) Tryz.func202 rfl rfl fun w => ?_; refine J16 ?_
    exact T.retF (Lv.fin (RV.tmp rfl rfl) ⟨_, rfl, by intro h; cases h⟩)
  cases h2 : validS s
  · have hv := refValid_fn s H zO
    rw [h2] at hv
    refine Fn.of_T (vs := [.string s]) Tryz.func202 rfl rfl fun w => ?_; refine J17 ?_; refine T.callV Wanted.none rfl rfl (hv) ?_; refine J7 ?_
    exact T.retF (Lv.fin (RV.tmp rfl rfl) ⟨_, rfl, by intro h; cases h⟩)
  · refine (validValue_fn s H).mono ?_
    rintro u _ ⟨n, rfl⟩
    exact ⟨n, rfl, fun _ => ⟨by omega, h2⟩⟩
theorem parseA_fn (s : ByteArray) (H : Hp) : Fn Tryz.prog 201 #[.string s] H (fun u _ => ∃ v n, u = .tuple #[v, .int .i64 n] ∧ (n = 0 → VvS s)) := by
  refine Fn.of_T (vs := [.string s]) Tryz.func201 rfl rfl fun w => ?_; refine J9 ?_; refine T.callX Wanted.none rfl rfl (validValueA_fn s H) ?_
  rintro _ ⟨n, rfl, hn0⟩
  refine J7 ?_
  refine T.condD rfl (fun hc => ?_) (fun hc => ?_)
  · refine J6 ?_
    exact T.retF (Lv.fin (RV.tmp2 rfl rfl rfl) ⟨_, _, rfl, fun h => absurd h zO⟩)
  have hvs : VvS s := hn0 zO
  have hs : s.size ≤ 120 := hvs.1
  by_cases h0 : s.size = 0
  · refine J13 ?_; refine T.setT (d := 19) rfl zO ?_; refine J18 ?_
    exact T.retF (Lv.fin (RV.tmp2 rfl rfl rfl) ⟨_, _, rfl, fun _ => hvs⟩)
  obtain ⟨c0, hc0⟩ := byteAt (s := s) (i := 0) zO
  have hc0' : s.data.toList[(0 : Int).toNat]? = some c0 := hc0
  obtain ⟨c1, hc1⟩ := byteAt (s := s) (i := s.size - 1) zO
  have hc1' : s.data.toList[((s.size : Int) - 1).toNat]? = some c1 := by rw [← hc1]; congr 1; omega
  by_cases h2 : (c0.toNat : Int) ≠ 124
  · refine J13 ?_; refine T.setF (d := 19) rfl zO ?_; refine gm ?_; refine gv (PV.indexStr rfl rfl zO zA) ?_; refine J3 ?_; refine T.setT (d := 24) rfl zO ?_; refine J13 ?_
    exact T.retF (Lv.fin (RV.tmp2 rfl rfl rfl) ⟨_, _, rfl, fun _ => hvs⟩)
  by_cases h3 : (c1.toNat : Int) ≠ 124
  · refine J13 ?_; refine T.setF (d := 19) rfl zO ?_; refine gm ?_; refine gv (PV.indexStr rfl rfl zO zA) ?_; refine J3 ?_; refine T.setF (d := 24) rfl zO ?_; refine J3 ?_; refine gv (PV.indexStr rfl rfl zO zA) ?_; refine J9 ?_
    exact T.retF (Lv.fin (RV.tmp2 rfl rfl rfl) ⟨_, _, rfl, fun _ => hvs⟩)
  refine J13 ?_; refine T.setF (d := 19) rfl zO ?_; refine gm ?_; refine gv (PV.indexStr rfl rfl zO zA) ?_; refine J3 ?_; refine T.setF (d := 24) rfl zO ?_; refine J3 ?_; refine gv (PV.indexStr rfl rfl zO zA) ?_; refine J19 ?_; refine T.loopK [(5, Value.int IntKind.i64 (↑s.size : Int)), (0, Value.string s)] zq8 (γ := PaG) (fun g => g.f ≤ g.i ∧ g.i ≤ s.size ∧ RowV 9 encT 1 g.v g.lv g.l ∧ g.l.length ≤ g.i) (fun g => [(8, .int .i64 (g.i : Int)), (7, .int .i64 (g.f : Int)), (6, g.v)]) (fun g => g.lv) (fun _ => H) (fun g => s.size - g.i) ⟨1, 1, .slice none 0 0, [], []⟩ ⟨by simp, by dsimp only; omega, Vec.nil _ _, by simp⟩ zq8 zq23 rfl ?_
  rintro ⟨i, f, v, lv, l⟩ ⟨g1, g2, g3, g4⟩
  dsimp only at g1 g2 g3 g4 ⊢
  obtain ⟨ad, cap, rfl⟩ := g3.val
  by_cases hi : i < s.size
  · obtain ⟨c, hc⟩ := byteAt hi
    have hc' : s.data.toList[((i : Nat) : Int).toNat]? = some c := by rw [Int.toNat_natCast]; exact hc
    by_cases h4 : (c.toNat : Int) ≠ 124
    · refine J16 ?_; refine yq106 ?_; refine J9 ?_
      exact T.nextP ⟨i + 1, f, _, lv, l⟩ ⟨by dsimp only; omega, by dsimp only; omega, g3, by dsimp only; omega⟩ zE zq8 zq23 rfl
    · by_cases h5 : i = f
      · refine J16 ?_; refine yq106 ?_; refine J17 ?_
        exact T.retF (Lv.fin (RV.tmp2 rfl rfl rfl) ⟨_, _, rfl, fun _ => hvs⟩)
      · refine J16 ?_; refine yq106 ?_; refine J19 ?_; refine sv (PV.sliceStr rfl rfl rfl zO) ?_; (refine T.buildSlice Wanted.none rfl rfl zq11 zX zX ?_; intro b48); (refine T.appendP (lv := lv) Wanted.none rfl rfl rfl g3 (Src.cells (m := 1) (ys := encT _) (.own zq2) rfl rfl) (one_encT _) zO zq1 ?_; intro v49 lv49 hv49 _); refine J6 ?_
        refine J7 ?_
        exact T.nextP ⟨i + 1, i + 1, v49, lv49, _⟩ ⟨by dsimp only; omega, by dsimp only; omega, RowV.snoc hv49, by rw [List.length_append]; simp only [List.length_singleton]; omega⟩ zE zq8 zq23 rfl
  · refine J15 ?_; refine T.loopK [(6, Value.slice ad l.length cap)] zq8 (γ := Nat) (fun i => 1 ≤ i) (fun i => [(9, .int .i64 (i : Int))]) (fun _ => lv) (fun _ => H) (fun i => l.length - i) 1 (Nat.le_refl 1) zq8 zq23 rfl ?_
    intro j hj0
    by_cases hj : j < l.length
    · obtain ⟨b, capb, hve⟩ := g3.ptr zO
      injection hve with e1 e2 e3
      subst e1 e3
      obtain ⟨s1, _, _, hs1⟩ := flat_at (f := fun s : ByteArray => Value.string s) (l := l) (n := (j : Int)) zO
      obtain ⟨s2, _, _, hs2⟩ := flat_at (f := fun s : ByteArray => Value.string s) (l := l) (n := (j : Int) - 1) zO
      refine J13 ?_; refine yq70 ?_; refine I4 ?_; refine TQ.pv (PV.loadVec rfl zA zq4 zA) Wanted.none rfl rfl ?_; refine I3 ?_; refine TQ.pv (PV.loadVec rfl zA zq4 zA) Wanted.none rfl rfl ?_; refine TQ.pv (PV.sgeq rfl rfl) Wanted.none rfl rfl ?_; refine TQ.nil ?_
      refine T.cond rfl (fun hc => ?_) (fun hc => ?_)
      · refine J5 ?_
        exact T.retF (Lv.fin (RV.tmp2 rfl rfl rfl) ⟨_, _, rfl, fun _ => hvs⟩)
      · refine J7 ?_
        exact T.nextP (j + 1) zO zO zq8 zq23 rfl
    · refine J16 ?_
      exact T.retF (Lv.fin (RV.tmp2 rfl rfl rfl) ⟨_, _, rfl, fun _ => hvs⟩)
theorem valueA_fn (nm : ByteArray) (b : Bool) (s : ByteArray) (H : Hp) : Fn Tryz.prog 152 #[.agg #[.string nm, .bool b], .string s] H (fun u _ => ErrV s u) := by
  refine Fn.of_T (vs := [.agg #[.string nm, .bool b], .string s]) Tryz.func152 rfl rfl fun w => ?_
  cases b
  · refine zs3 ?_; (refine T.box Wanted.none rfl rfl zq15 ?_; intro b2); refine J13 ?_; refine T.callX Wanted.none rfl rfl (validValueA_fn s H) ?_
    rintro _ ⟨n, rfl, hn⟩
    refine J2 ?_
    exact T.retF (Lv.fin (RV.tmp rfl rfl) ⟨_, rfl, hn⟩)
  · refine zs3 ?_; (refine T.box Wanted.none rfl rfl zq15 ?_; intro b2); refine J12 ?_; refine T.callX Wanted.none rfl rfl (parseA_fn s H) ?_
    rintro _ ⟨v, n, rfl, hn⟩
    refine J11 ?_
    exact T.retF (Lv.fin (RV.tmp rfl rfl) ⟨_, rfl, hn⟩)
theorem pairsA_fn (l : List (ByteArray × ByteArray)) (v : Value) (H : Hp) (hv : PrA H v l) : Fn Tryz.prog 153 #[v] H (fun u _ => IsI u) := by
  obtain ⟨ad, cap, rfl⟩ := hv.1.len
  refine Fn.of_T (vs := [.slice ad l.length cap]) Tryz.func153 rfl rfl fun w => ?_
  by_cases h1 : 8 < l.length
  · refine J16 ?_
    exact T.retF (Lv.fin (RV.tmp rfl rfl) ⟨_, rfl⟩)
  refine J21 ?_; refine T.loopR [(10, Value.int IntKind.i64 (↑l.length : Int)), (9, Value.slice ad l.length cap), (0, Value.slice ad l.length cap)] zq8 11 l.length rfl ?_
  intro i hi0
  by_cases hi : i < l.length
  · obtain ⟨p, hp⟩ : ∃ z, l[i]? = some z := ⟨_, List.getElem?_eq_getElem hi⟩
    obtain ⟨b, off, rfl, hsub⟩ := RowL.at encPr_len hv.1 hp
    unfold encPr at hsub
    by_cases h0 : 0 < i
    · obtain ⟨p0, hp0⟩ : ∃ z, l[i - 1]? = some z := ⟨_, List.getElem?_eq_getElem zO⟩
      have hsub0 := RowL.atP encPr_len hv.1 hp0
      unfold encPr at hsub0
      have hcast : ((i : Int) - 1).toNat = i - 1 := by omega
      have hsub1 : SubC H b (off + ((i : Int) - 1).toNat * 2) [.string p0.1, .string p0.2] := by rw [hcast]; exact hsub0
      refine J13 ?_; refine yq20 ?_; refine sy fun b4 => ?_; refine sa ?_; refine yq2 ?_; refine J7 ?_; (refine T.callX Wanted.none rfl rfl ((name4_fn _ _).mono (R' := fun u _ => IsB u) fun u _ h => ⟨_, h⟩) ?_; rintro _ ⟨b19, rfl⟩); refine J3 ?_
      refine T.cond rfl (fun h0 => ?_) (fun h0 => ?_)
      · refine J4 ?_
        (first | exact T.retF (Lv.fin (RV.tmp rfl rfl) ⟨_, rfl⟩) | exact T.nextR zO rfl zq8 zq23)
      · refine sq ?_; refine yq70 ?_; refine I3 ?_; refine TQ.setT (d := 24) rfl zO ?_; refine I2 ?_; refine TQ.pv (PV.sub rfl rfl zO) (Wanted.guard rfl rfl rfl) rfl rfl ?_; refine I2 ?_; refine TQ.pv (PV.loadSub rfl zA rfl) (Wanted.guard rfl rfl rfl) rfl rfl ?_; refine I2 ?_; refine TQ.pv (PV.sgeq rfl rfl) (Wanted.guard rfl rfl rfl) rfl rfl ?_; refine I3 ?_
        refine T.cond rfl (fun h1 => ?_) (fun h1 => ?_)
        · refine J4 ?_
          (first | exact T.retF (Lv.fin (RV.tmp rfl rfl) ⟨_, rfl⟩) | exact T.nextR zO rfl zq8 zq23)
        · refine J6 ?_; (refine T.callX Wanted.none rfl rfl (validValue_fn _ _) ?_; rintro _ ⟨n37, rfl⟩); refine J7 ?_
          refine T.condD rfl (fun h2 => ?_) (fun h2 => ?_)
          · refine J5 ?_
            (first | exact T.retF (Lv.fin (RV.tmp rfl rfl) ⟨_, rfl⟩) | exact T.nextR zO rfl zq8 zq23)
          · refine J6 ?_
            (first | exact T.retF (Lv.fin (RV.tmp rfl rfl) ⟨_, rfl⟩) | exact T.nextR zO rfl zq8 zq23)
    · refine J13 ?_; refine yq20 ?_; refine sy fun b4 => ?_; refine sa ?_; refine yq2 ?_; refine J7 ?_; (refine T.callX Wanted.none rfl rfl ((name4_fn _ _).mono (R' := fun u _ => IsB u) fun u _ h => ⟨_, h⟩) ?_; rintro _ ⟨b19, rfl⟩); refine J3 ?_
      refine T.cond rfl (fun h0 => ?_) (fun h0 => ?_)
      · refine J4 ?_
        (first | exact T.retF (Lv.fin (RV.tmp rfl rfl) ⟨_, rfl⟩) | exact T.nextR zO rfl zq8 zq23)
      · refine sq ?_; refine yq70 ?_; refine I3 ?_; refine TQ.setF (d := 24) rfl zO ?_; refine I12 ?_; refine J7 ?_; (refine T.callX Wanted.none rfl rfl (validValue_fn _ _) ?_; rintro _ ⟨n37, rfl⟩); refine J7 ?_
        refine T.condD rfl (fun h1 => ?_) (fun h1 => ?_)
        · refine J5 ?_
          (first | exact T.retF (Lv.fin (RV.tmp rfl rfl) ⟨_, rfl⟩) | exact T.nextR zO rfl zq8 zq23)
        · refine J6 ?_
          (first | exact T.retF (Lv.fin (RV.tmp rfl rfl) ⟨_, rfl⟩) | exact T.nextR zO rfl zq8 zq23)
  · refine J11 ?_
    exact T.retF (Lv.fin (RV.tmp rfl rfl) ⟨_, rfl⟩)
/-- names that are all different -/
def distN (l : List (ByteArray × Bool)) (n : Nat) : Prop := ∀ (i j : Nat) (a b : ByteArray × Bool), j < i → i < n → l[i]? = some a → l[j]? = some b → a.1 ≠ b.1
def distK (l : List (ByteArray × Bool)) (i n : Nat) : Prop := ∀ (j : Nat) (a b : ByteArray × Bool), j < n → l[i]? = some a → l[j]? = some b → a.1 ≠ b.1
theorem attributesA_fn (l : List (ByteArray × Bool)) (v : Value) (H : Hp) (hv : SlR H 2 v l.length (l.flatMap encAt)) : Fn Tryz.prog 93 #[v] H (fun u _ => ∃ n m : Int, u = .tuple #[.int .i64 n, .int .i64 m] ∧ (m = 0 → distN l l.length ∧ ∀ x ∈ l, x.1 ≠ ⟨#[]⟩)) := by
  obtain ⟨ad, cap, rfl⟩ := hv.len
  have hcap := hv.cap
  refine Fn.of_T (vs := [.slice ad l.length cap]) Tryz.func93 rfl rfl fun w => ?_
  by_cases h0 : l.length = 0
  · refine J18 ?_
    exact T.retF (Lv.fin (RV.tmp2 rfl rfl rfl) ⟨_, _, rfl, fun h => by cases h⟩)
  by_cases h1 : 8 < l.length
  · refine J27 ?_
    exact T.retF (Lv.fin (RV.tmp2 rfl rfl rfl) ⟨_, _, rfl, fun h => by cases h⟩)
  refine J31 ?_; refine T.loopC [(15, Value.int IntKind.i64 (↑l.length : Int)), (14, Value.slice ad l.length cap), (0, Value.slice ad l.length cap)] zq8 16 l.length (fun i => distN l i ∧ ∀ (j : Nat) (a : ByteArray × Bool), j < i → l[j]? = some a → a.1 ≠ ⟨#[]⟩) ⟨fun _ _ _ _ _ h => absurd h zO, fun _ _ h => absurd h zO⟩ rfl ?_
  rintro i ⟨hi0, hd, hne⟩
  by_cases hi : i < l.length
  · obtain ⟨b, off, ⟨nm, st⟩, rfl, hx, hsub⟩ := RowL.get encAt_len hv hi
    unfold encAt at hsub
    refine J13 ?_; refine yq20 ?_; refine sy fun b5 => ?_; refine sa ?_; refine yq2 ?_; refine J6 ?_; refine T.callX Wanted.none rfl rfl ((name4_fn _ _).mono (R' := fun u _ => ∃ q, u = .bool q ∧ (q = true → nm ≠ ⟨#[]⟩)) fun u _ h => ⟨_, h, fun h2 h3 => by subst h3; exact absurd h2 (show ¬ validName ⟨#[]⟩ = true by decide)⟩) ?_
    rintro _ ⟨q, rfl, hq0⟩
    refine J2 ?_
    refine T.cond rfl (fun hc => ?_) (fun hc => ?_)
    · refine J6 ?_
      exact T.retF (Lv.fin (RV.tmp2 rfl rfl rfl) ⟨_, _, rfl, fun h => by cases h⟩)
    refine J5 ?_; refine sv (PV.sliceH rfl rfl zO) ?_; refine J4 ?_; refine T.loopC [(29, Value.int IntKind.i64 (↑(↑i : Int).toNat : Int)), (28, Value.slice (some { block := b, off := off }) (↑i : Int).toNat cap), (4, Value.int IntKind.i64 (↑i : Int)), (5, Value.pointer (some { block := b5, off := 0 })), (16, Value.int IntKind.i64 (↑i : Int)), (15, Value.int IntKind.i64 (↑l.length : Int)), (14, Value.slice (some { block := b, off := off }) l.length cap), (0, Value.slice (some { block := b, off := off }) l.length cap)] zq8 30 i (fun j => distK l i j) (fun _ _ _ h => absurd h zO) rfl ?_
    rintro j ⟨hj0, hk⟩
    by_cases hj : j < i
    · obtain ⟨_, _, ⟨nm2, st2⟩, e, hx2, hsub2⟩ := RowL.get encAt_len hv (i := j) zO
      injection e with e
      injection e with e1 e2
      subst e1 e2
      unfold encAt at hsub2
      by_cases hq : nm = nm2
      · have hdq : decide (nm = nm2) = true := decide_eq_true hq
        refine J12 ?_; refine yq20 ?_; refine sy fun b7 => ?_; refine yq2 ?_; refine J9 ?_; refine yq110 ?_
        exact T.retF (Lv.fin (RV.tmp2 rfl rfl rfl) ⟨_, _, rfl, fun h => by cases h⟩)
      · have hdq : decide (nm = nm2) = false := decide_eq_false hq
        refine J12 ?_; refine yq20 ?_; refine sy fun b7 => ?_; refine yq2 ?_; refine J9 ?_; refine yq85 ?_
        refine T.nextC hj (fun k a b hkj ha hb => ?_) rfl zq8 zq23
        by_cases hkk : k < j
        · exact hk k a b hkk ha hb
        · obtain rfl : k = j := by omega
          rw [hx] at ha; rw [hx2] at hb
          cases ha; cases hb
          exact hq
    · refine J12 ?_
      refine T.nextC hi ⟨fun k m a b hmk hk1 ha hb => ?_, fun k a hk1 ha => ?_⟩ rfl zq8 zq23
      · by_cases hkk : k < i
        · exact hd k m a b hmk hkk ha hb
        · obtain rfl : k = i := by omega
          exact hk m a b zO ha hb
      · by_cases hkk : k < i
        · exact hne k a hkk ha
        · obtain rfl : k = i := by omega
          rw [hx] at ha; cases ha
          exact hq0 (by simpa using hc)
  · refine J12 ?_
    exact T.retF (Lv.fin (RV.tmp2 rfl rfl rfl) ⟨_, _, rfl, fun _ => by
      obtain rfl : i = l.length := by omega
      refine ⟨hd, fun x hx => ?_⟩
      obtain ⟨j, hj⟩ := List.getElem?_of_mem hx
      exact hne j x (List.getElem?_eq_some_iff.1 hj).1 hj⟩)

end Go.Proofs.YtecogbhbkccblaaGreatDoor
namespace Go.Proofs.YtecogbhbkccblaaGreatDoor
open Go.RowKit


/-- the first index at which a test holds, or -1 -/
def ixI {α : Type} (g : α → Bool) (l : List α) : Int := if l.any g = true then (l.findIdx g : Int) else -1
end Go.Proofs.YtecogbhbkccblaaGreatDoor
namespace Go.Proofs.YtecogbhbkccblaaGreatDoor
open Go.RowKit


end Go.Proofs.YtecogbhbkccblaaGreatDoor
