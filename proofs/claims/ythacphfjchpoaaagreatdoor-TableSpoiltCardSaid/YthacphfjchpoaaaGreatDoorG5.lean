/- made corpora: the tables of words; strings compared.
   made corpora: regions in order.
   made corpora: SortRegions.
   made corpora: constituents. -/
import Derived.Test.YthacphfjchpoaaaGreatDoorG4
namespace Go.Proofs.YthacphfjchpoaaaGreatDoor
open Go.RowKit

def bs (l : List UInt8) : ByteArray := ⟨l.toArray⟩
def strsV (l : List ByteArray) : List Value := l.flatMap fun s => [.string s]
theorem strsV_at {l : List ByteArray} {n : Int} (h : 0 ≤ n ∧ n < l.length) : ∃ s, s ∈ l ∧ (strsV l)[0 + n.toNat * 1]? = some (.string s) := by
  have hlt : n.toNat < l.length := by omega
  refine ⟨l[n.toNat], List.getElem_mem hlt, ?_⟩
  have hx : l[n.toNat]? = some l[n.toNat] := List.getElem?_eq_getElem hlt
  have hel := flat_elem (f := fun s : ByteArray => [Value.string s]) (sz := 1) (fun _ => rfl) l n.toNat _ hx
  have := congrArg (fun l => l[0]?) hel
  simp only [Nat.mul_one, List.getElem?_take, List.getElem?_drop, Nat.add_zero] at this
  rw [Nat.zero_add, Nat.mul_one]
  unfold strsV
  simpa using this
/-- one of some strings -/
def StrOf (l : List ByteArray) (u : Value) : Prop := ∃ s ∈ l, u = .string s
def words : List ByteArray := [bs [97], bs [98], bs [99], bs [65], bs [97, 98], bs []]
def tags : List ByteArray := [bs [88], bs [89]]
def feats : List ByteArray := [bs [124], bs [124, 112, 124], bs [124, 112, 124, 113, 124], bs [124, 113, 124]]
def types : List ByteArray := [bs [115], bs [110, 112], bs [116]]
theorem word_fn (n : Int) (H : Hp) (hn : 0 ≤ n ∧ n < 6) : Fn Tryz.prog 49 #[.int .i64 n] H (fun u _ => StrOf words u) := by
  refine Fn.of_T (vs := [.int .i64 n]) Tryz.func49 rfl rfl fun w => ?_
  obtain ⟨s, hs, hl⟩ := strsV_at (l := words) (n := n) (by simpa [words] using hn)
  refine zs3 ?_; refine yq23 ?_; (refine T.buildSlice Wanted.none rfl rfl zq11 (by exact rfl) (by exact rfl) ?_; intro b3); refine sm ?_; refine yq133 ?_; refine yq0 ?_
  exact T.retF (Lv.fin (RV.tmp rfl rfl) ⟨s, hs, rfl⟩)
theorem tag_fn (n : Int) (H : Hp) (hn : 0 ≤ n ∧ n < 2) : Fn Tryz.prog 50 #[.int .i64 n] H (fun u _ => StrOf tags u) := by
  refine Fn.of_T (vs := [.int .i64 n]) Tryz.func50 rfl rfl fun w => ?_
  obtain ⟨s, hs, hl⟩ := strsV_at (l := tags) (n := n) (by simpa [tags] using hn)
  refine zs3 ?_; refine yq23 ?_; (refine T.buildSlice Wanted.none rfl rfl zq11 (by exact rfl) (by exact rfl) ?_; intro b3); refine sm ?_; refine yq133 ?_; refine yq0 ?_
  exact T.retF (Lv.fin (RV.tmp rfl rfl) ⟨s, hs, rfl⟩)
theorem features_fn (n : Int) (H : Hp) (hn : 0 ≤ n ∧ n < 4) : Fn Tryz.prog 51 #[.int .i64 n] H (fun u _ => StrOf feats u) := by
  refine Fn.of_T (vs := [.int .i64 n]) Tryz.func51 rfl rfl fun w => ?_
  obtain ⟨s, hs, hl⟩ := strsV_at (l := feats) (n := n) (by simpa [feats] using hn)
  refine zs3 ?_; refine yq23 ?_; (refine T.buildSlice Wanted.none rfl rfl zq11 (by exact rfl) (by exact rfl) ?_; intro b3); refine sm ?_; refine yq133 ?_; refine yq0 ?_
  exact T.retF (Lv.fin (RV.tmp rfl rfl) ⟨s, hs, rfl⟩)
theorem type_fn (n : Int) (H : Hp) (hn : -9223372036854775808 ≤ n ∧ n ≤ 9223372036854775807) : Fn Tryz.prog 52 #[.int .i64 n] H (fun u _ => StrOf types u) := by
  refine Fn.of_T (vs := [.int .i64 n]) Tryz.func52 rfl rfl fun w => ?_
  have hm : 0 ≤ n % 3 ∧ n % 3 < 3 := by omega
  obtain ⟨s, hs, hl⟩ := strsV_at (l := types) (n := n % 3) (by simpa [types] using hm)
  refine zs3 ?_; refine yq23 ?_; (refine T.buildSlice Wanted.none rfl rfl zq11 (by exact rfl) (by exact rfl) ?_; intro b3); refine sm ?_; refine T.callV Wanted.none rfl rfl (mod_fn n 3 _ hn (by omega)) ?_; refine yq133 ?_; refine yq0 ?_
  exact T.retF (Lv.fin (RV.tmp rfl rfl) ⟨s, hs, rfl⟩)
/-! ### strings compared -/
theorem sign_fn (b : Bool) (H : Hp) : Fn Tryz.prog 107 #[.bool b] H (fun u _ => u = .int .i64 (if b then -1 else 1)) := by
  refine Fn.of_T (vs := [.bool b]) Tryz.func107 rfl rfl fun w => ?_
  cases b
  · refine yq25 ?_; refine yq14 ?_; refine yq92 ?_; refine yq25 ?_
    exact T.retF (Lv.fin (RV.tmp rfl rfl) rfl)
  · refine yq25 ?_; refine yq14 ?_; refine yq36 ?_; refine yq25 ?_
    exact T.retF (Lv.fin (RV.tmp rfl rfl) rfl)
def cmpB (a b : ByteArray) : Int := if Op.bytesLess a.data.toList b.data.toList = true then -1 else if (!(Op.bytesLess a.data.toList b.data.toList || decide (a = b))) = true then 1 else 0
theorem scompare_fn (a b : ByteArray) (H : Hp) : Fn Tryz.prog 108 #[.string a, .string b] H (fun u _ => u = .int .i64 (cmpB a b)) := by
  refine Fn.of_T (vs := [.string a, .string b]) Tryz.func108 rfl rfl fun w => ?_; refine yq25 ?_; refine yq17 ?_; refine yq137 ?_; refine sv (PV.slss rfl rfl) ?_; refine yq0 ?_
  refine T.cond rfl (fun h1 => ?_) (fun h1 => ?_)
  · refine yq25 ?_
    exact T.retF (Lv.fin (RV.tmp rfl rfl) (by unfold cmpB; rw [if_pos h1]))
  · refine yq137 ?_; refine sv (PV.sgtr rfl rfl) ?_; refine yq0 ?_
    refine T.cond rfl (fun h2 => ?_) (fun h2 => ?_)
    · refine yq25 ?_
      exact T.retF (Lv.fin (RV.tmp rfl rfl) (by unfold cmpB; rw [if_neg (by rw [h1]; simp), if_pos h2]))
    · refine T.skip ?_; refine T.blkEnd ?_; refine yq25 ?_
      exact T.retF (Lv.fin (RV.tmp rfl rfl) (by unfold cmpB; rw [if_neg (by rw [h1]; simp), if_neg (by rw [h2]; simp)]))
end Go.Proofs.YthacphfjchpoaaaGreatDoor
namespace Go.Proofs.YthacphfjchpoaaaGreatDoor
open Go.RowKit

def encPr (p : ByteArray × ByteArray) : List Value := [.string p.1, .string p.2]
theorem encPr_len (p : ByteArray × ByteArray) : (encPr p).length = 2 := rfl
structure Rg where
  ty : ByteArray
  b : Int
  e : Int
  kv : Value
  ks : List (ByteArray × ByteArray)
def PrL (H : Hp) (v : Value) (l : List (ByteArray × ByteArray)) : Prop := SlR H 2 v l.length (l.flatMap encPr) ∧ (l.length ≤ 1000 ∧ ∀ p ∈ l, p.2.size ≤ 1000000)
def RgOk (H : Hp) (r : Rg) : Prop := PrL H r.kv r.ks
theorem PrL.mono {H H' : Hp} {v : Value} {l : List (ByteArray × ByteArray)} (h : PrL H v l) (hl : H.le H') : PrL H' v l := ⟨h.1.mono hl, h.2⟩
theorem RgOk.mono {H H' : Hp} {r : Rg} (h : RgOk H r) (hl : H.le H') : RgOk H' r := PrL.mono h hl
def rgV (r : Rg) : Value := .agg #[.string r.ty, .int .i64 r.b, .int .i64 r.e, r.kv]
def encRg (r : Rg) : List Value := [.string r.ty, .int .i64 r.b, .int .i64 r.e, r.kv]
theorem encRg_len (r : Rg) : (encRg r).length = 4 := rfl
/-- by begin, and the longer one first -/
def leR (x y : Rg) : Prop := x.b < y.b ∨ (x.b = y.b ∧ y.e ≤ x.e)
theorem leR_trans {x y z : Rg} (h1 : leR x y) (h2 : leR y z) : leR x z := by unfold leR at *; omega
def cmpKeys : List (ByteArray × ByteArray) → List (ByteArray × ByteArray) → Int
  | p :: ps, q :: qs => if p.1 ≠ q.1 then cmpB p.1 q.1 else if p.2 ≠ q.2 then cmpB p.2 q.2 else cmpKeys ps qs
  | [], [] => 0
  | [], _ :: _ => -1
  | _ :: _, [] => 1
theorem cmpKeys_drop {a b : List (ByteArray × ByteArray)} {i : Nat} {p q : ByteArray × ByteArray} (hx : a[i]? = some p) (hy : b[i]? = some q) : cmpKeys (a.drop i) (b.drop i) = if p.1 ≠ q.1 then cmpB p.1 q.1 else if p.2 ≠ q.2 then cmpB p.2 q.2 else cmpKeys (a.drop (i + 1)) (b.drop (i + 1)) := by
  have h1 := List.getElem?_eq_some_iff.1 hx
  have h2 := List.getElem?_eq_some_iff.1 hy
  rw [List.drop_eq_getElem_cons h1.1, List.drop_eq_getElem_cons h2.1, h1.2, h2.2, cmpKeys]
theorem cmpKeys_end {a b : List (ByteArray × ByteArray)} {i : Nat} (h : a.length ≤ i ∨ b.length ≤ i) (ha : i ≤ a.length) (hb : i ≤ b.length) : cmpKeys (a.drop i) (b.drop i) = if a.length ≠ b.length then (if a.length < b.length then -1 else 1) else 0 := by
  by_cases h1 : a.length ≤ i
  · rw [List.drop_of_length_le h1]
    cases hd : b.drop i with
    | nil =>
      have := congrArg List.length hd
      simp at this
      rw [if_neg (by omega)]; rfl
    | cons q t =>
      have := congrArg List.length hd
      simp at this
      rw [if_pos (by omega), if_pos (by omega)]; rfl
  · have h2 : b.length ≤ i := by omega
    rw [List.drop_of_length_le h2]
    cases hd : a.drop i with
    | nil =>
      have := congrArg List.length hd
      simp at this
      omega
    | cons q t =>
      have := congrArg List.length hd
      simp at this
      rw [if_pos (by omega), if_neg (by omega)]; rfl
def cmpRg (x y : Rg) : Int := if x.b ≠ y.b then (if x.b < y.b then -1 else 1) else if x.e ≠ y.e then (if y.e < x.e then -1 else 1) else if x.ty ≠ y.ty then cmpB x.ty y.ty else cmpKeys x.ks y.ks
theorem cmpRg_le {x y : Rg} (h : cmpRg x y ≤ 0) : leR x y := by
  unfold cmpRg at h
  unfold leR
  by_cases h1 : x.b ≠ y.b
  · rw [if_pos h1] at h
    by_cases h2 : x.b < y.b
    · exact .inl h2
    · rw [if_neg h2] at h; omega
  · rw [if_neg h1] at h
    by_cases h3 : x.e ≠ y.e
    · rw [if_pos h3] at h
      by_cases h4 : y.e < x.e
      · exact .inr ⟨by omega, by omega⟩
      · rw [if_neg h4] at h; omega
    · exact .inr ⟨by omega, by omega⟩
theorem cmpRg_ge {x y : Rg} (h : 0 ≤ cmpRg x y) : leR y x := by
  unfold cmpRg at h
  unfold leR
  by_cases h1 : x.b ≠ y.b
  · rw [if_pos h1] at h
    by_cases h2 : x.b < y.b
    · rw [if_pos h2] at h; omega
    · exact .inl (by omega)
  · rw [if_neg h1] at h
    by_cases h3 : x.e ≠ y.e
    · rw [if_pos h3] at h
      by_cases h4 : y.e < x.e
      · rw [if_pos h4] at h; omega
      · exact .inr ⟨by omega, by omega⟩
    · exact .inr ⟨by omega, by omega⟩
set_option maxHeartbeats 2000000 in
theorem cmpRegions_fn (x y : Rg) (H : Hp) (hx : RgOk H x) (hy : RgOk H y) : Fn Tryz.prog 84 #[rgV x, rgV y] H (fun u _ => u = .int .i64 (cmpRg x y)) := by
  refine Fn.of_T (vs := [rgV x, rgV y]) Tryz.func84 rfl rfl fun w => ?_
  unfold rgV
  obtain ⟨xt, xb, xe, xv, xk⟩ := x
  obtain ⟨yt, yb, ye, yv, yk⟩ := y
  obtain ⟨hx1, hx2⟩ := hx
  obtain ⟨hy1, hy2⟩ := hy
  unfold cmpRg
  dsimp only at hx1 hx2 hy1 hy2 ⊢
  obtain ⟨ax, cx, rfl⟩ := hx1.len
  obtain ⟨ay, cy, rfl⟩ := hy1.len
  by_cases h1 : xb ≠ yb
  · rw [if_pos h1]
    refine zs3 ?_; (refine T.box Wanted.none rfl rfl zq15 ?_; intro b2); (refine T.box Wanted.none rfl rfl zq15 ?_; intro b3); refine yq0 ?_; refine yq17 ?_; refine yq41 ?_; refine yq5 ?_; refine sv (PV.neq rfl rfl) ?_; refine yq0 ?_; refine sc rfl (by omega) ?_; refine yq41 ?_; refine yq5 ?_; refine sv (PV.lss rfl rfl) ?_; refine T.callV Wanted.none rfl rfl (sign_fn _ _) ?_; refine yq0 ?_
    exact T.retF (Lv.fin (RV.tmp rfl rfl) (by simp))
  rw [if_neg h1]
  have h1' : xb = yb := by omega
  subst h1'
  by_cases h2 : xe ≠ ye
  · rw [if_pos h2]
    refine zs3 ?_; (refine T.box Wanted.none rfl rfl zq15 ?_; intro b2); (refine T.box Wanted.none rfl rfl zq15 ?_; intro b3); refine yq0 ?_; refine yq17 ?_; refine yq41 ?_; refine yq5 ?_; refine sv (PV.neq rfl rfl) ?_; refine yq0 ?_; refine sd rfl (by omega) ?_; refine yq41 ?_; refine yq5 ?_; refine sv (PV.neq rfl rfl) ?_; refine yq0 ?_; refine sc rfl (by omega) ?_; refine yq41 ?_; refine yq5 ?_; refine sv (PV.gtr rfl rfl) ?_; refine T.callV Wanted.none rfl rfl (sign_fn _ _) ?_; refine yq0 ?_
    exact T.retF (Lv.fin (RV.tmp rfl rfl) (by simp))
  rw [if_neg h2]
  have h2' : xe = ye := by omega
  subst h2'
  by_cases h3 : xt ≠ yt
  · rw [if_pos h3]
    have hd3 : decide (xt ≠ yt) = true := decide_eq_true h3
    refine zs3 ?_; (refine T.box Wanted.none rfl rfl zq15 ?_; intro b2); (refine T.box Wanted.none rfl rfl zq15 ?_; intro b3); refine yq0 ?_; refine yq17 ?_; refine yq41 ?_; refine yq5 ?_; refine sv (PV.neq rfl rfl) ?_; refine yq0 ?_; refine sd rfl (by omega) ?_; refine yq41 ?_; refine yq5 ?_; refine sv (PV.neq rfl rfl) ?_; refine yq0 ?_; refine sd rfl (by omega) ?_; refine yq41 ?_; refine yq5 ?_; refine sv (PV.sneq rfl rfl) ?_; refine yq0 ?_; refine T.condT rfl (by assumption) ?_; refine yq41 ?_; refine yq5 ?_; refine T.callV Wanted.none rfl rfl (scompare_fn _ _ _) ?_
    refine yq0 ?_
    exact T.retF (Lv.fin (RV.tmp rfl rfl) rfl)
  rw [if_neg h3]
  have hd3 : decide (xt ≠ yt) = false := decide_eq_false h3
  refine zs3 ?_; (refine T.box Wanted.none rfl rfl zq15 ?_; intro b2); (refine T.box Wanted.none rfl rfl zq15 ?_; intro b3); refine yq0 ?_; refine yq17 ?_; refine yq41 ?_; refine yq5 ?_; refine sv (PV.neq rfl rfl) ?_; refine yq0 ?_; refine sd rfl (by omega) ?_; refine yq41 ?_; refine yq5 ?_; refine sv (PV.neq rfl rfl) ?_; refine yq0 ?_; refine sd rfl (by omega) ?_; refine yq41 ?_; refine yq5 ?_; refine sv (PV.sneq rfl rfl) ?_; refine yq0 ?_; refine yq108 ?_; refine T.blkEnd ?_; refine sq ?_; refine yq25 ?_
  refine T.block ?_
  refine T.loop (γ := Nat) (fun i => i ≤ xk.length ∧ i ≤ yk.length ∧ cmpKeys (xk.drop i) (yk.drop i) = cmpKeys xk yk)
    (fun i => [(5, .int .i64 (i : Int)), (2, .pointer (some ⟨b2, 0, none⟩)), (3, .pointer (some ⟨b3, 0, none⟩))])
    (fun _ => [(b3, .cells #[.string yt, .int .i64 xb, .int .i64 xe, .slice ay yk.length cy] 97 (0, 0)), (b2, .cells #[.string xt, .int .i64 xb, .int .i64 xe, .slice ax xk.length cx] 97 (0, 0))]) (fun _ => H) (fun i => xk.length - i) 0 ⟨by simp, by simp, rfl⟩ zq8 zq4 rfl ?_
  rintro i ⟨hi, hi2, hi3⟩
  by_cases hix : i < xk.length
  · by_cases hiy : i < yk.length
    · obtain ⟨p, hp⟩ : ∃ z, xk[i]? = some z := ⟨_, List.getElem?_eq_getElem hix⟩
      obtain ⟨q, hq⟩ : ∃ z, yk[i]? = some z := ⟨_, List.getElem?_eq_getElem hiy⟩
      obtain ⟨bx, ox, rfl, hsx⟩ := RowL.at encPr_len hx1 hp
      obtain ⟨by', oy, rfl, hsy⟩ := RowL.at encPr_len hy1 hq
      unfold encPr at hsx hsy
      have hcn := scompare_fn p.1 q.1 H
      have hcv := scompare_fn p.2 q.2 H
      rw [cmpKeys_drop hp hq] at hi3
      by_cases h4 : p.1 ≠ q.1
      · rw [if_pos h4] at hi3
        have hd4 : decide (p.1 ≠ q.1) = true := decide_eq_true h4
        refine yq14 ?_; refine yq106 ?_; refine yq49 ?_; refine T.setT (d := 46) rfl (by omega) ?_; refine gm ?_; refine yq96 ?_; refine yq134 ?_; refine so ?_; refine yq33 ?_; refine sq ?_; refine sq ?_; refine yq91 ?_; refine yq11 ?_; refine yq21 ?_; refine yq6 ?_; refine yq11 ?_; refine yq21 ?_; refine yq152 ?_; refine T.condT rfl (by assumption) ?_; refine sq ?_; refine T.regionQ (by kernel_rfl) ?_
        refine yq6 ?_; refine yq11 ?_; refine yq21 ?_; refine yq6 ?_; refine yq11 ?_; refine yq21 ?_; refine TQ.callV Wanted.none rfl rfl (hcn) ?_; refine yq188 ?_
        exact T.retF (Lv.fin (RV.tmp rfl rfl) (by rw [← hi3]))
      rw [if_neg h4] at hi3
      have hd4 : decide (p.1 ≠ q.1) = false := decide_eq_false h4
      by_cases h5 : p.2 ≠ q.2
      · rw [if_pos h5] at hi3
        have hd5 : decide (p.2 ≠ q.2) = true := decide_eq_true h5
        refine yq14 ?_; refine yq106 ?_; refine yq49 ?_; refine T.setT (d := 46) rfl (by omega) ?_; refine gm ?_; refine yq96 ?_; refine yq134 ?_; refine so ?_; refine yq33 ?_; refine sq ?_; refine sq ?_; refine yq91 ?_; refine yq11 ?_; refine yq21 ?_; refine yq6 ?_; refine yq11 ?_; refine yq21 ?_; refine yq152 ?_; refine yq108 ?_; refine sq ?_
        refine yq91 ?_; refine yq11 ?_; refine yq21 ?_; refine yq6 ?_; refine yq11 ?_; refine yq21 ?_; refine yq152 ?_; refine T.condT rfl (by assumption) ?_; refine sq ?_; refine yq91 ?_; refine yq11 ?_; refine yq21 ?_; refine yq6 ?_; refine yq11 ?_; refine yq21 ?_; refine TQ.callV Wanted.none rfl rfl (hcv) ?_; refine yq188 ?_
        exact T.retF (Lv.fin (RV.tmp rfl rfl) (by rw [← hi3]))
      rw [if_neg h5] at hi3
      have hd5 : decide (p.2 ≠ q.2) = false := decide_eq_false h5
      refine yq14 ?_; refine yq106 ?_; refine yq49 ?_; refine T.setT (d := 46) rfl (by omega) ?_; refine gm ?_; refine yq96 ?_; refine yq134 ?_; refine so ?_; refine yq33 ?_; refine sq ?_; refine sq ?_; refine yq91 ?_; refine yq11 ?_; refine yq21 ?_; refine yq6 ?_; refine yq11 ?_; refine yq21 ?_; refine yq152 ?_; refine yq108 ?_; refine sq ?_
      refine yq91 ?_; refine yq11 ?_; refine yq21 ?_; refine yq6 ?_; refine yq11 ?_; refine yq21 ?_; refine yq152 ?_; refine yq108 ?_; refine yq35 ?_; refine sm ?_; refine yq63 ?_
      exact T.next (i + 1) ⟨by omega, by omega, hi3⟩ (by omega) zq8 zq4 rfl
    · rw [cmpKeys_end (by omega) hi hi2, if_pos (by omega), if_neg (by omega)] at hi3
      have hsg := sign_fn (decide ((xk.length : Int) < yk.length)) H
      rw [decide_eq_false (by omega)] at hsg
      have hlt : decide ((xk.length : Int) < yk.length) = false := decide_eq_false (by omega)
      refine yq14 ?_; refine yq106 ?_; refine yq49 ?_; refine T.setT (d := 46) rfl (by omega) ?_; refine gm ?_; refine yq96 ?_; refine yq134 ?_; refine so ?_; refine yq16 ?_; refine yq129 ?_; refine yq106 ?_; refine sv (PV.neq rfl rfl) ?_; refine yq46 ?_; refine yq41 ?_; refine sv (PV.lenSl rfl) ?_; refine yq106 ?_; refine sv (PV.lss rfl rfl) ?_
      rw [hlt]
      refine T.callV Wanted.none rfl rfl hsg ?_; refine yq0 ?_
      exact T.retF (Lv.fin (RV.tmp rfl rfl) (by rw [← hi3]; rfl))
  · rw [cmpKeys_end (by omega) hi hi2] at hi3
    by_cases h6 : xk.length ≠ yk.length
    · rw [if_pos h6, if_pos (by omega)] at hi3
      have hlt : decide ((xk.length : Int) < yk.length) = true := decide_eq_true (by omega)
      refine yq14 ?_; refine yq106 ?_; refine yq49 ?_; refine T.setF (d := 46) rfl (by omega) ?_; refine yq143 ?_; refine sF ?_; refine so ?_; refine yq142 ?_; refine yq129 ?_; refine yq106 ?_; refine sv (PV.neq rfl rfl) ?_; refine yq46 ?_; refine yq41 ?_; refine sv (PV.lenSl rfl) ?_; refine yq106 ?_; refine sv (PV.lss rfl rfl) ?_
      rw [hlt]
      refine T.callV Wanted.none rfl rfl (sign_fn _ _) ?_; refine yq0 ?_
      exact T.retF (Lv.fin (RV.tmp rfl rfl) (by rw [← hi3]; rfl))
    · rw [if_neg h6] at hi3
      refine yq14 ?_; refine yq106 ?_; refine yq49 ?_; refine T.setF (d := 46) rfl (by omega) ?_; refine yq143 ?_; refine sF ?_; refine so ?_; refine yq142 ?_; refine yq129 ?_; refine yq106 ?_; refine sv (PV.neq rfl rfl) ?_; refine yq88 ?_; refine yq25 ?_
      exact T.retF (Lv.fin (RV.tmp rfl rfl) (by rw [← hi3]))
end Go.Proofs.YthacphfjchpoaaaGreatDoor
namespace Go.Proofs.YthacphfjchpoaaaGreatDoor
open Go.RowKit

abbrev RgL (H : Hp) (v : Value) (l : List Rg) : Prop := SlR H 4 v l.length (l.flatMap encRg) ∧ ∀ r ∈ l, RgOk H r
abbrev RgV (v : Value) (lv : List (Nat × Obj)) (l : List Rg) : Prop := Vec 97 4 v lv l.length (l.flatMap encRg)
theorem one_encRg {H : Hp} {r : Rg} (h : RgOk H r) : ∀ v ∈ encRg r, v.oneCell' = true := by
  obtain ⟨am, cm, hmv⟩ := h.1.len
  intro v hv
  simp only [encRg, List.mem_cons, List.not_mem_nil, or_false] at hv
  rcases hv with rfl | rfl | rfl | rfl
  · rfl
  · rfl
  · rfl
  · rw [hmv]; rfl
def zeroRg : Rg := ⟨bs [], 0, 0, .slice none 0 0, []⟩
theorem splice4 {a b c d a' b' c' d' : Value} {pre post : List Value} {n : Nat} (hn : pre.length = n) : Splice (pre ++ ([a, b, c, d] ++ post)) n [a', b', c', d'] (pre ++ ([a', b', c', d'] ++ post)) := by
  subst hn
  induction pre with
  | nil => exact .cons (.cons (.cons (.cons .nil)))
  | cons p pre ih => exact .skip ih
/-- the list with one put in at place k -/
theorem sorted_put {M : List Rg} {x : Rg} {k : Nat} (h : M.Pairwise leR) (h1 : ∀ r ∈ M.take k, leR r x) (h2 : ∀ r ∈ M.drop k, leR x r) : (M.take k ++ x :: M.drop k).Pairwise leR := by
  have hs : (M.take k ++ M.drop k).Pairwise leR := by rw [List.take_append_drop]; exact h
  rw [List.pairwise_append] at hs ⊢
  refine ⟨hs.1, List.pairwise_cons.2 ⟨h2, hs.2.1⟩, fun a ha c hc => ?_⟩
  rcases List.mem_cons.1 hc with rfl | hc
  · exact h1 a ha
  · exact hs.2.2 a ha c hc
theorem take_le {M : List Rg} {x y : Rg} {k : Nat} (h : M.Pairwise leR) (hy : M[k]? = some y) (hyx : leR y x) : ∀ r ∈ M.take (k + 1), leR r x := by
  intro r hr
  rw [List.take_add_one, hy] at hr
  rcases List.mem_append.1 hr with h1 | h1
  · have hs : (M.take k ++ M.drop k).Pairwise leR := by rw [List.take_append_drop]; exact h
    rw [List.pairwise_append] at hs
    have hk := List.getElem?_eq_some_iff.1 hy
    have : y ∈ M.drop k := by rw [List.drop_eq_getElem_cons hk.1, hk.2]; exact List.mem_cons_self
    exact leR_trans (hs.2.2 r h1 y this) hyx
  · simp at h1; subst h1; exact hyx
structure SoG where
  j : Nat
  M : List Rg
  v : Value
  lv : List (Nat × Obj)
set_option maxHeartbeats 4000000 in
theorem sortRegions_fn (l : List Rg) (v : Value) (H : Hp) (hv : RgL H v l) (hl : l.length ≤ 1000000) : Fn Tryz.prog 53 #[v] H (fun u H' => ∃ M : List Rg, RgL H' u M ∧ M.Pairwise leR ∧ M.Perm l) := by
  obtain ⟨ad, cap, rfl⟩ := hv.1.len
  refine Fn.of_T (vs := [.slice ad l.length cap]) Tryz.func53 rfl rfl fun w => ?_; refine zs3 ?_; refine yq23 ?_; refine yq0 ?_; refine yq112 ?_
  refine T.loop (γ := SoG) (fun g => g.j ≤ l.length ∧ RgV g.v g.lv g.M ∧ g.M.Pairwise leR ∧ g.M.Perm (l.take g.j))
    (fun g => [(9, .int .i64 (g.j : Int)), (8, .int .i64 (l.length : Int)), (7, .slice ad l.length cap), (3, g.v)])
    (fun g => g.lv) (fun _ => H) (fun g => l.length - g.j) ⟨0, [], .slice none 0 0, []⟩ ⟨by simp, Vec.nil 97 4, List.Pairwise.nil, by simp⟩ zq8 zq4 rfl ?_
  rintro ⟨j, M, u, lv⟩ ⟨j1, j2, j3, j4⟩
  dsimp only at j1 j2 j3 j4 ⊢
  have hml : M.length ≤ l.length := by rw [j4.length_eq, List.length_take]; omega
  have hMok : ∀ r ∈ M, RgOk H r := fun r hr => hv.2 r (List.mem_of_mem_take (j4.mem_iff.1 hr))
  by_cases hj : j < l.length
  · obtain ⟨x, hx⟩ : ∃ z, l[j]? = some z := ⟨_, List.getElem?_eq_getElem hj⟩
    obtain ⟨b, off, rfl, hsub⟩ := RowL.at encRg_len hv.1 hx
    have hxok := hv.2 x (List.mem_of_getElem? hx)
    obtain ⟨ax, cx, hxv⟩ := hxok.1.len
    unfold encRg at hsub
    rw [hxv] at hsub
    have hxV : rgV x = .agg #[.string x.ty, .int .i64 x.b, .int .i64 x.e, .slice ax x.ks.length cx] := by unfold rgV; rw [hxv]
    have hxE : encRg x = [.string x.ty, .int .i64 x.b, .int .i64 x.e, .slice ax x.ks.length cx] := by unfold encRg; rw [hxv]
    have htk : (l.take (j + 1)) = l.take j ++ [x] := by rw [List.take_add_one, hx]; rfl
    obtain ⟨adu, capu, rfl⟩ := j2.val
    refine yq110 ?_; refine sy fun b5 => ?_; refine yq10 ?_; refine yq83 ?_; refine yq0 ?_; refine yq17 ?_
    refine T.loop (γ := Nat) (fun k => k ≤ M.length ∧ ∀ r ∈ M.drop k, leR x r)
      (fun k => [(6, .int .i64 (k : Int)), (5, .pointer (some ⟨b5, 0, none⟩)), (9, .int .i64 (j : Int)), (8, .int .i64 (l.length : Int)), (7, .slice (some ⟨b, off, none⟩) l.length cap), (3, .slice adu M.length capu)])
      (fun _ => (b5, .cells #[.string x.ty, .int .i64 x.b, .int .i64 x.e, .slice ax x.ks.length cx] 97 (0, 0)) :: lv) (fun _ => H) (fun k => k) M.length ⟨by simp, by simp⟩ zq8 zq4 rfl ?_
    rintro k ⟨k1, k2⟩
    obtain ⟨q, hq⟩ : ∃ q : Bool, q = decide (∃ y, M[k - 1]? = some y ∧ 0 < k ∧ 0 < cmpRg y x) := ⟨_, rfl⟩
    refine sq ?_; refine sq ?_
    refine T.cut1 [(26, .bool q), (6, .int .i64 (k : Int)), (5, .pointer (some ⟨b5, 0, none⟩)), (9, .int .i64 (j : Int)), (8, .int .i64 (l.length : Int)), (7, .slice (some ⟨b, off, none⟩) l.length cap), (3, .slice adu M.length capu)]
      ((b5, .cells #[.string x.ty, .int .i64 x.b, .int .i64 x.e, .slice ax x.ks.length cx] 97 (0, 0)) :: lv) ?_ fun K => ?_
    rotate_left
    · cases k with
      | zero =>
        have hqf : q = false := by rw [hq]; exact decide_eq_false (by rintro ⟨y, _, h, _⟩; omega)
        subst hqf
        refine yq39 ?_; refine yq89 ?_; refine yq4 ?_; refine yq4 ?_; refine yq4 ?_; refine yq4 ?_; refine yq193 ?_
        exact K _ _ zq8 (by exact List.Sublist.refl _)
      | succ i0 =>
        obtain ⟨y, hy⟩ : ∃ z, M[i0]? = some z := ⟨_, List.getElem?_eq_getElem (by omega)⟩
        have hqe : q = decide (0 < cmpRg y x) := by
          rw [hq, decide_eq_decide]
          constructor
          · rintro ⟨z, hz, _, h⟩
            rw [Nat.add_sub_cancel, hy] at hz; injection hz with hz; subst hz; exact h
          · intro h; exact ⟨y, hy, by omega, h⟩
        subst hqe
        have hyok := hMok y (List.mem_of_getElem? hy)
        obtain ⟨ay, cy, hyv⟩ := hyok.1.len
        have hcall := cmpRegions_fn y x H hyok hxok
        unfold rgV at hcall
        rw [hyv, hxv] at hcall
        have hne : M.flatMap encRg ≠ [] := by intro h; have := congrArg List.length h; rw [flat_len encRg_len] at this; simp at this; omega
        obtain ⟨bm, capm, hve⟩ := j2.ptr (by omega)
        injection hve with e1 e2 e3
        subst e1 e3
        obtain ⟨_, r1, r2, tl, rfl, r3⟩ := j2.row hne
        have g1 := getRow encRg_len tl hy
        rw [show ((i0 : Nat) : Int) = ((i0 + 1 : Nat) : Int) - 1 by omega] at g1
        unfold encRg at g1
        rw [hyv] at g1
        refine yq39 ?_; refine yq89 ?_; refine TQ.setT (d := 17) rfl (by omega) ?_; refine yq124 ?_; refine TQ.pv (PV.sub rfl rfl (by omega)) (Wanted.guard rfl rfl rfl) rfl rfl ?_; refine TQ.pv (PV.indexAddr rfl rfl (by omega)) (Wanted.guard rfl rfl rfl) rfl rfl ?_; refine TQ.pv (PV.loadAgg rfl zq0 (by assumption) (by exact rfl)) (Wanted.guard rfl rfl rfl) rfl rfl ?_; refine TQ.pv (PV.loadAll rfl zq0 (by exact rfl)) (Wanted.guard rfl rfl rfl) rfl rfl ?_; refine TQ.callV (Wanted.guard rfl rfl rfl) rfl rfl (hcall) ?_; refine TQ.pv (PV.gtr rfl rfl) (Wanted.guard rfl rfl rfl) rfl rfl ?_; refine yq144 ?_
        exact K _ _ zq8 (by exact List.Sublist.refl _)
    refine T.cond rfl (fun hc => ?_) (fun hc => ?_)
    · rw [hq, decide_eq_true_eq] at hc
      obtain ⟨y, hy, hk0, hlt⟩ := hc
      have hdr : M.drop (k - 1) = y :: M.drop k := by
        have := List.getElem?_eq_some_iff.1 hy
        rw [List.drop_eq_getElem_cons this.1, this.2, show k - 1 + 1 = k by omega]
      refine T.skip ?_; refine T.block ?_; refine yq81 ?_; refine yq77 ?_; refine T.blkEnd ?_
      rw [show (k : Int) - 1 = ((k - 1 : Nat) : Int) by omega]
      refine T.next (k - 1) ⟨by omega, fun r hr => ?_⟩ (by omega) zq8 (by exact List.Sublist.refl _) rfl
      rw [hdr] at hr
      rcases List.mem_cons.1 hr with h | h
      · subst h; exact cmpRg_ge (by omega)
      · exact k2 r h
    rw [hq, decide_eq_false_iff_not] at hc
    have hput : (M.take k ++ x :: M.drop k).Pairwise leR := by
      refine sorted_put j3 ?_ k2
      rcases Nat.eq_zero_or_pos k with h0 | h0
      · subst h0; simp
      · obtain ⟨y, hy⟩ : ∃ z, M[k - 1]? = some z := ⟨_, List.getElem?_eq_getElem (by omega)⟩
        have := take_le (x := x) j3 hy (cmpRg_le (Int.not_lt.1 fun h => hc ⟨y, hy, h0, h⟩))
        rwa [show k - 1 + 1 = k by omega] at this
    have hperm : (M.take k ++ x :: M.drop k).Perm (l.take (j + 1)) := by
      rw [htk]
      refine List.perm_middle.trans ?_
      rw [List.take_append_drop]
      exact ((List.Perm.cons x j4).trans (List.perm_append_comm (l₁ := [x])))
    clear hq k2 hc
    refine T.exit rfl ?_; refine yq2 ?_; refine sv (PV.build rfl zq12) ?_; (refine T.buildSlice Wanted.none rfl rfl zq11 (by exact rfl) (by exact rfl) ?_; intro b31); refine T.appendE [_, _] (lv := lv) Wanted.none rfl rfl rfl j2 (Src.cells (m := 1) (ys := encRg zeroRg) (.own zq2) rfl rfl) (one_encRg (H := H) ⟨SlR.empty, by simp [zeroRg]⟩) (by omega) ?_
    intro v2 lv2 hv2 _
    obtain ⟨b2, cap2, rfl⟩ := hv2.ptr (by omega)
    obtain ⟨_, r1, r2, tl, rfl, r3⟩ := hv2.row (by simp [encRg])
    have hl' : (M.take k ++ x :: M.drop k).length = M.length + 1 := by rw [List.length_append, List.length_cons, List.length_take, List.length_drop]; omega
    have hfm : (M.flatMap encRg).length = M.length * 4 := flat_len encRg_len M
    have hcap4 : (M.flatMap encRg).length + (4 + tl.length) = cap2 * 4 := by rw [← r3, List.length_append, List.length_append, Nat.add_assoc]; rfl
    have hfinal : ∀ cs : List Value, cs = (M.take k).flatMap encRg ++ (encRg x ++ ((M.drop k).flatMap encRg ++ tl)) → RgV (.slice (some ⟨b2, 0, none⟩) (M.length + 1) cap2) [(b2, .cells cs.toArray 97 (0, 0))] (M.take k ++ x :: M.drop k) := by
      intro cs hcs
      have e : cs = (M.take k ++ x :: M.drop k).flatMap encRg ++ tl := by rw [hcs]; simp
      have e2 := flat_len encRg_len (M.take k ++ x :: M.drop k)
      refine ⟨e2, .inr ⟨b2, cap2, cs, by rw [hl'], rfl, by omega, r2, ?_, ?_⟩⟩
      · rw [e, List.length_append, e2, hl']; omega
      · rw [e, ← e2, List.take_left]
    by_cases hkl : k = M.length
    · subst hkl
      rw [List.append_assoc]
      refine yq0 ?_; refine sq ?_; refine T.regionT 7 (by kernel_rfl) ?_; refine yq150 ?_; refine TQ.pv (PV.add rfl rfl (by omega)) Wanted.none rfl rfl ?_; refine TQ.pv (PV.sliceL rfl rfl (by omega)) Wanted.none rfl rfl ?_; refine yq150 ?_; refine TQ.pv (PV.sliceLP rfl rfl (by omega)) Wanted.none rfl rfl ?_; refine TQ.nil ?_; refine T.copyNone Wanted.none rfl rfl rfl ?_ ?_
      · show min _ _ = 0
        omega
      · refine zs2 ?_; refine sm ?_; refine yq138 ?_; refine sv (PV.indexAddr rfl rfl (by omega)) ?_; refine T.storeA Wanted.none rfl rfl ⟨rfl, rfl, rfl, rfl, trivial⟩ (by exact rfl) (.tail (.tail .head)) (splice4 (by rw [hfm]; omega)) ?_; refine so ?_; refine yq61 ?_
        exact T.next ⟨j + 1, M.take M.length ++ x :: M.drop M.length, .slice (some ⟨b2, 0, none⟩) (M.length + 1) cap2, _⟩ ⟨by dsimp only; omega, hfinal (M.flatMap encRg ++ ([.string x.ty, .int .i64 x.b, .int .i64 x.e, .slice ax x.ks.length cx] ++ tl)) (by simp [hxE]), hput, hperm⟩ (by dsimp only; omega) zq8 zq4 rfl
    · have hk2 : k < M.length := by omega
      obtain ⟨y, hy⟩ : ∃ z, M[k]? = some z := ⟨_, List.getElem?_eq_getElem hk2⟩
      have hdr : M.drop k = y :: M.drop (k + 1) := by
        have := List.getElem?_eq_some_iff.1 hy
        rw [List.drop_eq_getElem_cons this.1, this.2]
      have hdl : ((M.drop k).flatMap encRg).length = (M.length - k) * 4 := by rw [flat_len encRg_len, List.length_drop]
      have hsplit : M.flatMap encRg = (M.take k).flatMap encRg ++ (M.drop k).flatMap encRg := by rw [← List.flatMap_append, List.take_append_drop]
      have htl4 : ((M.take k).flatMap encRg).length = k * 4 := by rw [flat_len encRg_len, List.length_take]; congr 1; omega
      have hcs0 : M.flatMap encRg ++ encRg zeroRg ++ tl = (M.take k).flatMap encRg ++ ((M.drop k).flatMap encRg ++ (encRg zeroRg ++ tl)) := by rw [hsplit]; simp only [List.append_assoc]
      have hv1 : ((M.flatMap encRg ++ encRg zeroRg ++ tl).drop (0 + ((k : Nat) : Int).toNat * 4)).take ((M.length - k) * 4) = (M.drop k).flatMap encRg := by
        rw [hcs0, List.drop_left' (by rw [htl4]; omega), ← hdl, List.take_left]
      have hv2' : (M.flatMap encRg ++ encRg zeroRg ++ tl).take (0 + ((k : Int) + 1).toNat * 4) = (M.take k).flatMap encRg ++ encRg y := by
        have e : M.flatMap encRg ++ encRg zeroRg ++ tl = ((M.take k).flatMap encRg ++ encRg y) ++ ((M.drop (k + 1)).flatMap encRg ++ (encRg zeroRg ++ tl)) := by
          rw [hcs0, hdr, List.flatMap_cons]; simp only [List.append_assoc]
        rw [e, List.take_left' (by rw [List.length_append, htl4, encRg_len]; omega)]
      have hv3 : (M.flatMap encRg ++ encRg zeroRg ++ tl).drop (0 + ((k : Int) + 1).toNat * 4 + (M.length - k) * 4) = tl := by
        rw [List.drop_left' (by rw [List.length_append, hfm, encRg_len]; omega)]
      refine yq0 ?_; refine sq ?_; refine T.regionT 7 (by kernel_rfl) ?_; refine yq150 ?_; refine TQ.pv (PV.add rfl rfl (by omega)) Wanted.none rfl rfl ?_; refine TQ.pv (PV.sliceLP rfl rfl (by omega)) Wanted.none rfl rfl ?_; refine yq150 ?_; refine TQ.pv (PV.sliceLP rfl rfl (by omega)) Wanted.none rfl rfl ?_; refine TQ.nil ?_; refine T.copyOwn [_, _] (vs := (M.drop k).flatMap encRg) (m := M.length - k) Wanted.none rfl rfl rfl ?_ hv1 hdl ?_ ?_ ?_
      · show min _ _ = _
        omega
      · rw [r3]; omega
      · exact RowL.one fun r hr => one_encRg (hMok r (List.mem_of_mem_drop hr))
      · rw [hv2', hv3, List.append_assoc, List.append_assoc]
        obtain ⟨ay, cy, hyv⟩ := (hMok y (List.mem_of_getElem? hy)).1.len
        rw [show encRg y = [.string y.ty, .int .i64 y.b, .int .i64 y.e, .slice ay y.ks.length cy] by unfold encRg; rw [hyv]]
        refine zs2 ?_; refine sm ?_; refine yq138 ?_; refine sv (PV.indexAddr rfl rfl (by omega)) ?_; refine T.storeA Wanted.none rfl rfl ⟨rfl, rfl, rfl, rfl, trivial⟩ (by exact rfl) (.tail (.tail .head)) (splice4 (by rw [htl4]; omega)) ?_; refine so ?_; refine yq61 ?_
        exact T.next ⟨j + 1, M.take k ++ x :: M.drop k, .slice (some ⟨b2, 0, none⟩) (M.length + 1) cap2, _⟩ ⟨by dsimp only; omega, hfinal _ (by rw [hxE]), hput, hperm⟩ (by dsimp only; omega) zq8 zq4 rfl
  · rw [List.take_of_length_le (by omega)] at j4
    refine yq74 ?_; refine yq140 ?_
    exact T.retF (Vec.freezeLv (l' := []) j2 (by rw [List.append_nil]; exact List.Sublist.refl _) fun H' hleF hsl => Lv.fin (RV.tmp rfl rfl) ⟨M, ⟨hsl, fun r hr => (hMok r hr).mono hleF⟩, j3, j4⟩)
end Go.Proofs.YthacphfjchpoaaaGreatDoor
namespace Go.Proofs.YthacphfjchpoaaaGreatDoor
open Go.RowKit

structure Nd where
  lb : ByteArray
  b : Int
  e : Int
  p : Int
def encNd (n : Nd) : List Value := [.string n.lb, .int .i64 n.b, .int .i64 n.e, .int .i64 n.p]
theorem encNd_len (n : Nd) : (encNd n).length = 4 := rfl
theorem one_encNd (n : Nd) : ∀ v ∈ encNd n, v.oneCell' = true := by
  intro v hv
  simp only [encNd, List.mem_cons, List.not_mem_nil, or_false] at hv
  rcases hv with rfl | rfl | rfl | rfl <;> rfl
/-- constituents of a corpus of n tokens -/
def nodesOk (n : Int) (l : List Nd) : Prop := ∀ (i : Nat) (x : Nd), l[i]? = some x → (0 ≤ x.b ∧ x.b < x.e ∧ x.e ≤ n) ∧ -1 ≤ x.p ∧ x.p < i
theorem nodesOk.snoc {n : Int} {l : List Nd} {x : Nd} (h : nodesOk n l) (h1 : 0 ≤ x.b ∧ x.b < x.e ∧ x.e ≤ n) (h2 : -1 ≤ x.p ∧ x.p < l.length) : nodesOk n (l ++ [x]) := by
  intro i y hy
  rcases Nat.lt_or_ge i l.length with hi | hi
  · rw [List.getElem?_append_left hi] at hy
    exact h i y hy
  · rw [List.getElem?_append_right hi] at hy
    have h0 : i - l.length = 0 := by
      have := (List.getElem?_eq_some_iff.1 hy).1
      simp at this; omega
    rw [h0] at hy
    simp at hy
    subst hy
    exact ⟨h1, h2.1, by omega⟩
abbrev NdV (v : Value) (lv : List (Nat × Obj)) (l : List Nd) : Prop := Vec 105 4 v lv l.length (l.flatMap encNd)
abbrev NdL (H : Hp) (v : Value) (l : List Nd) : Prop := SlR H 4 v l.length (l.flatMap encNd)
/-- a corpus in a block of the walk's own -/
def cpBlk (b : Nat) (va vt vx vr vn vh vs : Value) : Nat × Obj := (b, .cells #[va, vt, vx, vr, vn, vh, vs] 32 (0, 0))
structure NoG where
  k : Nat
  at_ : Int
  t : Tp
  ad : Option Addr
  cap : Nat
  lv : List (Nat × Obj)
  l : List Nd
structure NpG where
  t : Tp
  v : Value
  lv : List (Nat × Obj)
  l : List Nd
set_option maxHeartbeats 4000000 in
theorem nodes_fn (bt bc : Nat) (t : Tp) (adt : Option Addr) (n capt : Nat) (va vx vr vh vs : Value) (H : Hp) (ht : t.ok H) (hn : 1 ≤ n ∧ n ≤ 100) (_hb : va.oneCell' = true) :
    FnW Tryz.prog 54 #[.pointer (some ⟨bt, 0, none⟩), .pointer (some ⟨bc, 0, none⟩)] H [Tp.blk bt t, cpBlk bc va (.slice adt n capt) vx vr (.slice none 0 0) vh vs]
      (fun u H' l' => u = .tuple #[] ∧ ∃ t' vn nds, t'.ok H' ∧ NdL H' vn nds ∧ nodesOk n nds ∧ nds.length ≤ 6 ∧ l' = [Tp.blk bt t', cpBlk bc va (.slice adt n capt) vx vr vn vh vs]) := by
  refine FnW.of_T (vs := [.pointer (some ⟨bt, 0, none⟩), .pointer (some ⟨bc, 0, none⟩)]) Tryz.func54 rfl rfl fun w => ?_
  unfold cpBlk
  refine yq2 ?_; refine sv (PV.nilCheck rfl) ?_; refine yq106 ?_; refine yq23 ?_; refine yq56 ?_; refine T.callW Wanted.none rfl rfl (next_fn bt t 4 _ ht (by omega)) (.take .nil) ?_
  rintro _ _ _ _ ⟨rfl, k0, t1, rfl, hk0, ht1, rfl⟩
  obtain ⟨k0, rfl⟩ : ∃ k : Nat, k0 = (k : Int) := ⟨k0.toNat, by omega⟩
  refine yq0 ?_; refine T.block ?_
  refine T.loop (γ := NoG) (fun g => g.t.ok H ∧ NdV (.slice g.ad g.l.length g.cap) g.lv g.l ∧ nodesOk n g.l ∧ (0 ≤ g.at_ ∧ g.at_ ≤ n) ∧ g.l.length + 2 * g.k ≤ 6)
    (fun g => [(6, .int .i64 (g.k : Int)), (5, .int .i64 g.at_), (4, .int .i64 (n : Int)), (0, .pointer (some ⟨bt, 0, none⟩)), (1, .pointer (some ⟨bc, 0, none⟩))])
    (fun g => [Tp.blk bt g.t, (bc, .cells #[va, .slice adt n capt, vx, vr, .slice g.ad g.l.length g.cap, vh, vs] 32 (0, 0))] ++ g.lv) (fun _ => H) (fun g => g.k) ⟨k0, 0, t1, none, 0, [], []⟩ ⟨ht1, Vec.nil _ _, fun i x h => by simp at h, ⟨by dsimp only; omega, by dsimp only; omega⟩, by dsimp only [List.length_nil]; omega⟩ zq8 zq4 rfl ?_
  rintro ⟨k, at_, t2, ad, cap, lv, l⟩ ⟨g1, g2, g3, g4, g5⟩
  dsimp only at g1 g2 g3 g4 g5 ⊢
  by_cases hk : k = 0 ∨ ¬ at_ < n
  · rcases hk with rfl | hk
    · refine yq158 ?_; refine sm ?_; refine yq8 ?_; refine sp ?_; refine sF ?_; refine so ?_; refine yq142 ?_; refine T.perm (l' := lv ++ [_, _]) List.perm_append_comm ?_; refine Vec.freeze (lv := lv) (l := [_, _]) g2 ?_
      intro H9 hle9 hsl
      refine T.fallW (Lv.finW _ (List.Sublist.refl _) (RV.none rfl) ⟨rfl, t2, _, l, g1.mono hle9, hsl, g3, ?_, rfl⟩)
      omega
    · have hk1 : 0 < k ∨ k = 0 := by omega
      rcases hk1 with hk1 | rfl
      · refine yq158 ?_; refine sm ?_; refine T.setT (d := 20) rfl (by omega) ?_; refine gm ?_; refine gm ?_; refine yq134 ?_; refine so ?_; refine yq16 ?_; refine T.perm (l' := lv ++ [_, _]) List.perm_append_comm ?_; refine Vec.freeze (lv := lv) (l := [_, _]) g2 ?_
        intro H9 hle9 hsl
        refine T.fallW (Lv.finW _ (List.Sublist.refl _) (RV.none rfl) ⟨rfl, t2, _, l, g1.mono hle9, hsl, g3, ?_, rfl⟩)
        omega
      · refine yq158 ?_; refine sm ?_; refine yq8 ?_; refine sp ?_; refine sF ?_; refine so ?_; refine yq142 ?_; refine T.perm (l' := lv ++ [_, _]) List.perm_append_comm ?_; refine Vec.freeze (lv := lv) (l := [_, _]) g2 ?_
        intro H9 hle9 hsl
        refine T.fallW (Lv.finW _ (List.Sublist.refl _) (RV.none rfl) ⟨rfl, t2, _, l, g1.mono hle9, hsl, g3, ?_, rfl⟩)
        omega
  have hk1 : 0 < k := by omega
  have hk2 : at_ < n := by omega
  refine yq158 ?_; refine sm ?_; refine T.setT (d := 20) rfl (by omega) ?_; refine gm ?_; refine gm ?_; refine yq134 ?_; refine so ?_; refine yq33 ?_; refine yq137 ?_; refine T.callW Wanted.none rfl rfl (next_fn bt t2 2 _ g1 (by omega)) (.take .nil) ?_
  rintro _ _ _ _ ⟨rfl, x1, t3, rfl, hx1, ht3, rfl⟩
  by_cases hb1 : (n : Int) ≤ at_ + x1
  · refine yq63 ?_; refine yq14 ?_; refine sm ?_; refine sv (PV.geq rfl rfl) ?_; refine yq46 ?_; refine T.exit rfl ?_; refine T.perm (l' := lv ++ [_, _]) List.perm_append_comm ?_; refine Vec.freeze (lv := lv) (l := [_, _]) g2 ?_
    intro H9 hle9 hsl
    refine T.fallW (Lv.finW _ (List.Sublist.refl _) (RV.none rfl) ⟨rfl, t3, _, l, ht3.mono hle9, hsl, g3, ?_, rfl⟩)
    omega
  refine yq63 ?_; refine yq14 ?_; refine sm ?_; refine sv (PV.geq rfl rfl) ?_; refine yq88 ?_; refine yq2 ?_; refine yq9 ?_; refine yq162 ?_; refine sv (PV.sub rfl rfl (by omega)) ?_; refine T.callW Wanted.none rfl rfl (next_fn bt t3 (n - (at_ + x1)) _ ht3 (by omega)) (.take .nil) ?_
  rintro _ _ _ _ ⟨rfl, x2, t4, rfl, hx2, ht4, rfl⟩
  obtain ⟨b, hb⟩ : ∃ b, b = at_ + x1 := ⟨_, rfl⟩
  obtain ⟨e, he⟩ : ∃ e, e = at_ + x1 + 1 + x2 := ⟨_, rfl⟩
  have hbe : 0 ≤ b ∧ b < e ∧ e ≤ n := by omega
  refine sv (PV.add rfl rfl (by omega)) ?_; refine yq56 ?_; refine sv (PV.nilCheck rfl) ?_; refine yq106 ?_; refine yq0 ?_
  rw [← he, ← hb]
  have hlit2 : ∀ (m : Int), 0 ≤ m ∧ m < 2 → ∃ s : ByteArray, (strsV [bs [83], bs [78, 80]])[0 + m.toNat * 1]? = some (.string s) := fun m hm => by
    obtain ⟨s, _, h⟩ := strsV_at (l := [bs [83], bs [78, 80]]) (n := m) (by exact hm)
    exact ⟨s, h⟩
  have hlit3 : ∀ (m : Int), 0 ≤ m ∧ m < 2 → ∃ s : ByteArray, (strsV [bs [78, 80], bs [86, 80]])[0 + m.toNat * 1]? = some (.string s) := fun m hm => by
    obtain ⟨s, _, h⟩ := strsV_at (l := [bs [78, 80], bs [86, 80]]) (n := m) (by exact hm)
    exact ⟨s, h⟩
  refine sq ?_
  refine T.cut1F (fun (g : NpG) => g.t.ok H ∧ NdV g.v g.lv g.l ∧ nodesOk n g.l ∧ g.l.length = l.length + 1)
    (fun g => [(9, .int .i64 (l.length : Int)), (8, .int .i64 e), (7, .int .i64 b), (6, .int .i64 (k : Int)), (4, .int .i64 (n : Int)), (0, .pointer (some ⟨bt, 0, none⟩)), (1, .pointer (some ⟨bc, 0, none⟩))])
    (fun g => [Tp.blk bt g.t, (bc, .cells #[va, .slice adt n capt, vx, vr, g.v, vh, vs] 32 (0, 0))] ++ g.lv) ?_ fun K => ?_
  rotate_left
  · refine T.regionS [(bc, .cells #[va, .slice adt n capt, vx, vr, .slice ad l.length cap, vh, vs] 32 (0, 0))] 17 (by kernel_rfl) ?_; refine yq131 ?_; refine TS.take 2 rfl (by kernel_rfl) (by kernel_rfl) (by kernel_rfl) (by kernel_rfl) (PV.nilCheck rfl) Wanted.none rfl rfl ?_; refine yq45 ?_; refine TS.take 6 rfl (by kernel_rfl) (by kernel_rfl) (by kernel_rfl) (by kernel_rfl) (PV.move rfl) Wanted.none rfl rfl ?_; refine TS.take 10 rfl (by kernel_rfl) (by kernel_rfl) (by kernel_rfl) (by kernel_rfl) (PV.move rfl) Wanted.none rfl rfl ?_; refine TS.take 11 rfl (by kernel_rfl) (by kernel_rfl) (by kernel_rfl) (by kernel_rfl) (PV.move rfl) Wanted.none rfl rfl ?_
    refine TS.ways [5, 7] (by kernel_rfl) rfl zq18 ⟨⟨_, rfl, ?_⟩, ⟨_, rfl, ?_⟩, trivial⟩
    · (refine T.buildSlice Wanted.none rfl rfl zq11 (by exact rfl) (by exact rfl) ?_; intro b52); refine yq24 ?_
      refine TS.ways [7] (by kernel_rfl) rfl zq18 ⟨⟨_, rfl, ?_⟩, trivial⟩
      (refine T.callW Wanted.none rfl rfl (next_fn _ _ _ _ ?_ ?_) zq1 ?_; (focus assumption); (focus omega); rintro _ _ _ _ ⟨rfl, n54, t54, rfl, hn54, ht54, rfl⟩; obtain ⟨s54, hl54⟩ := hlit2 n54 hn54); refine yq103 ?_
      refine TS.ways [9] (by kernel_rfl) rfl zq18 ⟨⟨_, rfl, ?_⟩, trivial⟩
      refine yq130 ?_; refine TS.take 12 rfl (by kernel_rfl) (by kernel_rfl) (by kernel_rfl) (by kernel_rfl) (PV.build rfl zq12) Wanted.none rfl rfl ?_
      refine TS.ways [13] (by kernel_rfl) rfl zq18 ⟨⟨_, rfl, ?_⟩, trivial⟩
      (refine T.buildSlice Wanted.none rfl rfl zq11 (by exact rfl) (by exact rfl) ?_; intro b60); refine yq24 ?_
      refine TS.ways [14] (by kernel_rfl) rfl zq18 ⟨⟨_, rfl, ?_⟩, trivial⟩
      (refine T.appendE [_, _, _, _] (lv := lv) Wanted.none rfl rfl rfl g2 (Src.cells (m := 1) (ys := encNd ⟨s54, b, e, -1⟩) (.own zq2) rfl rfl) (one_encNd _) (by omega) ?_; intro v61 lv61 hv61 _; obtain ⟨ad61, cap61, rfl⟩ := hv61.val); refine yq24 ?_
      refine TS.ways [15] (by kernel_rfl) rfl zq18 ⟨⟨_, rfl, ?_⟩, trivial⟩
      refine sv (PV.nilCheck rfl) ?_; refine yq24 ?_; refine TS.take 16 rfl (by kernel_rfl) (by kernel_rfl) (by kernel_rfl) (by kernel_rfl) (PV.fieldAddr rfl) Wanted.none rfl rfl ?_
      refine TS.ways [17] (by kernel_rfl) rfl zq18 ⟨⟨_, rfl, ?_⟩, trivial⟩
      refine yq120 ?_; (exact K ⟨t54, _, lv61, _⟩ _ _ ⟨ht54, RowV.snoc hv61, g3.snoc hbe ⟨by dsimp only; omega, by dsimp only; omega⟩, by rw [List.length_append]; rfl⟩ zq8 zq4)
    · (refine T.callW Wanted.none rfl rfl (next_fn _ _ _ _ ?_ ?_) zq1 ?_; (focus assumption); (focus omega); rintro _ _ _ _ ⟨rfl, n54, t54, rfl, hn54, ht54, rfl⟩; obtain ⟨s54, hl54⟩ := hlit2 n54 hn54); refine yq24 ?_
      refine TS.ways [5] (by kernel_rfl) rfl zq18 ⟨⟨_, rfl, ?_⟩, trivial⟩
      (refine T.buildSlice Wanted.none rfl rfl zq11 (by exact rfl) (by exact rfl) ?_; intro b52); refine yq103 ?_
      refine TS.ways [9] (by kernel_rfl) rfl zq18 ⟨⟨_, rfl, ?_⟩, trivial⟩
      refine yq130 ?_; refine TS.take 12 rfl (by kernel_rfl) (by kernel_rfl) (by kernel_rfl) (by kernel_rfl) (PV.build rfl zq12) Wanted.none rfl rfl ?_
      refine TS.ways [13] (by kernel_rfl) rfl zq18 ⟨⟨_, rfl, ?_⟩, trivial⟩
      (refine T.buildSlice Wanted.none rfl rfl zq11 (by exact rfl) (by exact rfl) ?_; intro b60); refine yq24 ?_
      refine TS.ways [14] (by kernel_rfl) rfl zq18 ⟨⟨_, rfl, ?_⟩, trivial⟩
      (refine T.appendE [_, _, _, _] (lv := lv) Wanted.none rfl rfl rfl g2 (Src.cells (m := 1) (ys := encNd ⟨s54, b, e, -1⟩) (.own zq2) rfl rfl) (one_encNd _) (by omega) ?_; intro v61 lv61 hv61 _; obtain ⟨ad61, cap61, rfl⟩ := hv61.val); refine yq24 ?_
      refine TS.ways [15] (by kernel_rfl) rfl zq18 ⟨⟨_, rfl, ?_⟩, trivial⟩
      refine sv (PV.nilCheck rfl) ?_; refine yq24 ?_; refine TS.take 16 rfl (by kernel_rfl) (by kernel_rfl) (by kernel_rfl) (by kernel_rfl) (PV.fieldAddr rfl) Wanted.none rfl rfl ?_
      refine TS.ways [17] (by kernel_rfl) rfl zq18 ⟨⟨_, rfl, ?_⟩, trivial⟩
      refine yq120 ?_; (exact K ⟨t54, _, lv61, _⟩ _ _ ⟨ht54, RowV.snoc hv61, g3.snoc hbe ⟨by dsimp only; omega, by dsimp only; omega⟩, by rw [List.length_append]; rfl⟩ zq8 zq4)
  rintro ⟨t5, v5, lv5, l5⟩ ⟨ht5, h5, hn5, hl5⟩
  dsimp only at ht5 h5 hn5 hl5 ⊢
  obtain ⟨ad5, cap5, rfl⟩ := h5.val
  refine yq14 ?_; refine T.callW Wanted.none rfl rfl (next_fn bt t5 2 _ ht5 (by omega)) (.take .nil) ?_
  rintro _ _ _ _ ⟨rfl, x3, t6, rfl, hx3, ht6, rfl⟩
  have hk1' : (k : Int) - 1 = ((k - 1 : Nat) : Int) := by omega
  by_cases hx3' : x3 = 1
  · subst hx3'
    refine yq197 ?_; refine yq137 ?_; refine yq162 ?_; refine sv (PV.sub rfl rfl (by omega)) ?_; refine T.callW Wanted.none rfl rfl (next_fn bt t6 (e - b) _ ht6 (by omega)) (.take .nil) ?_
    rintro _ _ _ _ ⟨rfl, x4, t7, rfl, hx4, ht7, rfl⟩
    obtain ⟨d, hd⟩ : ∃ d, d = b + x4 := ⟨_, rfl⟩
    refine yq63 ?_
    rw [← hd]
    refine T.cut1F (fun (g : NpG) => g.t.ok H ∧ NdV g.v g.lv g.l ∧ nodesOk n g.l ∧ g.l.length = l.length + 2)
      (fun g => [(8, .int .i64 e), (6, .int .i64 (k : Int)), (4, .int .i64 (n : Int)), (0, .pointer (some ⟨bt, 0, none⟩)), (1, .pointer (some ⟨bc, 0, none⟩))])
      (fun g => [Tp.blk bt g.t, (bc, .cells #[va, .slice adt n capt, vx, vr, g.v, vh, vs] 32 (0, 0))] ++ g.lv) ?_ fun K => ?_
    rotate_left
    · refine T.regionS [(bc, .cells #[va, .slice adt n capt, vx, vr, .slice ad5 l5.length cap5, vh, vs] 32 (0, 0))] 25 (by kernel_rfl) ?_; refine yq131 ?_; refine TS.take 2 rfl (by kernel_rfl) (by kernel_rfl) (by kernel_rfl) (by kernel_rfl) (PV.nilCheck rfl) Wanted.none rfl rfl ?_; refine yq45 ?_; refine TS.take 6 rfl (by kernel_rfl) (by kernel_rfl) (by kernel_rfl) (by kernel_rfl) (PV.move rfl) Wanted.none rfl rfl ?_; refine TS.take 10 rfl (by kernel_rfl) (by kernel_rfl) (by kernel_rfl) (by kernel_rfl) (PV.move rfl) Wanted.none rfl rfl ?_; refine TS.take 11 rfl (by kernel_rfl) (by kernel_rfl) (by kernel_rfl) (by kernel_rfl) (PV.move rfl) Wanted.none rfl rfl ?_; refine TS.take 12 rfl (by kernel_rfl) (by kernel_rfl) (by kernel_rfl) (by kernel_rfl) (PV.add rfl rfl (by omega)) Wanted.none rfl rfl ?_; refine TS.take 13 rfl (by kernel_rfl) (by kernel_rfl) (by kernel_rfl) (by kernel_rfl) (PV.move rfl) Wanted.none rfl rfl ?_; refine TS.take 14 rfl (by kernel_rfl) (by kernel_rfl) (by kernel_rfl) (by kernel_rfl) (PV.move rfl) Wanted.none rfl rfl ?_; refine TS.take 15 rfl (by kernel_rfl) (by kernel_rfl) (by kernel_rfl) (by kernel_rfl) (PV.move rfl) Wanted.none rfl rfl ?_; refine TS.take 16 rfl (by kernel_rfl) (by kernel_rfl) (by kernel_rfl) (by kernel_rfl) (PV.sub rfl rfl (by omega)) Wanted.none rfl rfl ?_; refine TS.take 19 rfl (by kernel_rfl) (by kernel_rfl) (by kernel_rfl) (by kernel_rfl) (PV.move rfl) Wanted.none rfl rfl ?_
      refine TS.ways [5, 7] (by kernel_rfl) rfl zq18 ⟨⟨_, rfl, ?_⟩, ⟨_, rfl, ?_⟩, trivial⟩
      · (refine T.buildSlice Wanted.none rfl rfl zq11 (by exact rfl) (by exact rfl) ?_; intro b79); refine yq24 ?_
        refine TS.ways [7] (by kernel_rfl) rfl zq18 ⟨⟨_, rfl, ?_⟩, trivial⟩
        (refine T.callW Wanted.none rfl rfl (next_fn _ _ _ _ ?_ ?_) zq1 ?_; (focus assumption); (focus omega); rintro _ _ _ _ ⟨rfl, n81, t81, rfl, hn81, ht81, rfl⟩; obtain ⟨s81, hl81⟩ := hlit3 n81 hn81); refine yq103 ?_
        refine TS.ways [9, 17] (by kernel_rfl) rfl zq18 ⟨⟨_, rfl, ?_⟩, ⟨_, rfl, ?_⟩, trivial⟩
        · refine yq130 ?_
          refine TS.ways [17] (by kernel_rfl) rfl zq18 ⟨⟨_, rfl, ?_⟩, trivial⟩
          (refine T.callW Wanted.none rfl rfl (next_fn _ _ _ _ ?_ ?_) zq1 ?_; (focus assumption); (focus omega); rintro _ _ _ _ ⟨rfl, n91, t91, rfl, hn91, ht91, rfl⟩); refine yq145 ?_; refine TS.take 20 rfl (by kernel_rfl) (by kernel_rfl) (by kernel_rfl) (by kernel_rfl) (PV.build rfl zq12) Wanted.none rfl rfl ?_
          refine TS.ways [21] (by kernel_rfl) rfl zq18 ⟨⟨_, rfl, ?_⟩, trivial⟩
          (refine T.buildSlice Wanted.none rfl rfl zq11 (by exact rfl) (by exact rfl) ?_; intro b95); refine yq24 ?_
          refine TS.ways [22] (by kernel_rfl) rfl zq18 ⟨⟨_, rfl, ?_⟩, trivial⟩
          (refine T.appendE [_, _, _, _] (lv := lv5) Wanted.none rfl rfl rfl h5 (Src.cells (m := 1) (ys := encNd ⟨s81, d, d + 1 + n91, (l.length : Int)⟩) (.own zq2) rfl rfl) (one_encNd _) (by omega) ?_; intro v96 lv96 hv96 _; obtain ⟨ad96, cap96, rfl⟩ := hv96.val); refine yq24 ?_
          refine TS.ways [23] (by kernel_rfl) rfl zq18 ⟨⟨_, rfl, ?_⟩, trivial⟩
          refine sv (PV.nilCheck rfl) ?_; refine yq153 ?_
          refine TS.ways [25] (by kernel_rfl) rfl zq18 ⟨⟨_, rfl, ?_⟩, trivial⟩
          refine yq120 ?_; (exact K ⟨t91, _, lv96, _⟩ _ _ ⟨ht91, RowV.snoc hv96, hn5.snoc ⟨by dsimp only; omega, by dsimp only; omega, by dsimp only; omega⟩ ⟨by dsimp only; omega, by dsimp only; omega⟩, by rw [List.length_append, hl5]; rfl⟩ zq8 zq4)
        · (refine T.callW Wanted.none rfl rfl (next_fn _ _ _ _ ?_ ?_) zq1 ?_; (focus assumption); (focus omega); rintro _ _ _ _ ⟨rfl, n91, t91, rfl, hn91, ht91, rfl⟩); refine yq145 ?_
          refine TS.ways [9] (by kernel_rfl) rfl zq18 ⟨⟨_, rfl, ?_⟩, trivial⟩
          refine yq130 ?_; refine TS.take 20 rfl (by kernel_rfl) (by kernel_rfl) (by kernel_rfl) (by kernel_rfl) (PV.build rfl zq12) Wanted.none rfl rfl ?_
          refine TS.ways [21] (by kernel_rfl) rfl zq18 ⟨⟨_, rfl, ?_⟩, trivial⟩
          (refine T.buildSlice Wanted.none rfl rfl zq11 (by exact rfl) (by exact rfl) ?_; intro b95); refine yq24 ?_
          refine TS.ways [22] (by kernel_rfl) rfl zq18 ⟨⟨_, rfl, ?_⟩, trivial⟩
          (refine T.appendE [_, _, _, _] (lv := lv5) Wanted.none rfl rfl rfl h5 (Src.cells (m := 1) (ys := encNd ⟨s81, d, d + 1 + n91, (l.length : Int)⟩) (.own zq2) rfl rfl) (one_encNd _) (by omega) ?_; intro v96 lv96 hv96 _; obtain ⟨ad96, cap96, rfl⟩ := hv96.val); refine yq24 ?_
          refine TS.ways [23] (by kernel_rfl) rfl zq18 ⟨⟨_, rfl, ?_⟩, trivial⟩
          refine sv (PV.nilCheck rfl) ?_; refine yq153 ?_
          refine TS.ways [25] (by kernel_rfl) rfl zq18 ⟨⟨_, rfl, ?_⟩, trivial⟩
          refine yq120 ?_; (exact K ⟨t91, _, lv96, _⟩ _ _ ⟨ht91, RowV.snoc hv96, hn5.snoc ⟨by dsimp only; omega, by dsimp only; omega, by dsimp only; omega⟩ ⟨by dsimp only; omega, by dsimp only; omega⟩, by rw [List.length_append, hl5]; rfl⟩ zq8 zq4)
      · (refine T.callW Wanted.none rfl rfl (next_fn _ _ _ _ ?_ ?_) zq1 ?_; (focus assumption); (focus omega); rintro _ _ _ _ ⟨rfl, n81, t81, rfl, hn81, ht81, rfl⟩; obtain ⟨s81, hl81⟩ := hlit3 n81 hn81); refine yq24 ?_
        refine TS.ways [5, 17] (by kernel_rfl) rfl zq18 ⟨⟨_, rfl, ?_⟩, ⟨_, rfl, ?_⟩, trivial⟩
        · (refine T.buildSlice Wanted.none rfl rfl zq11 (by exact rfl) (by exact rfl) ?_; intro b79); refine yq103 ?_
          refine TS.ways [9, 17] (by kernel_rfl) rfl zq18 ⟨⟨_, rfl, ?_⟩, ⟨_, rfl, ?_⟩, trivial⟩
          · refine yq130 ?_
            refine TS.ways [17] (by kernel_rfl) rfl zq18 ⟨⟨_, rfl, ?_⟩, trivial⟩
            (refine T.callW Wanted.none rfl rfl (next_fn _ _ _ _ ?_ ?_) zq1 ?_; (focus assumption); (focus omega); rintro _ _ _ _ ⟨rfl, n91, t91, rfl, hn91, ht91, rfl⟩); refine yq145 ?_; refine TS.take 20 rfl (by kernel_rfl) (by kernel_rfl) (by kernel_rfl) (by kernel_rfl) (PV.build rfl zq12) Wanted.none rfl rfl ?_
            refine TS.ways [21] (by kernel_rfl) rfl zq18 ⟨⟨_, rfl, ?_⟩, trivial⟩
            (refine T.buildSlice Wanted.none rfl rfl zq11 (by exact rfl) (by exact rfl) ?_; intro b95); refine yq24 ?_
            refine TS.ways [22] (by kernel_rfl) rfl zq18 ⟨⟨_, rfl, ?_⟩, trivial⟩
            (refine T.appendE [_, _, _, _] (lv := lv5) Wanted.none rfl rfl rfl h5 (Src.cells (m := 1) (ys := encNd ⟨s81, d, d + 1 + n91, (l.length : Int)⟩) (.own zq2) rfl rfl) (one_encNd _) (by omega) ?_; intro v96 lv96 hv96 _; obtain ⟨ad96, cap96, rfl⟩ := hv96.val); refine yq24 ?_
            refine TS.ways [23] (by kernel_rfl) rfl zq18 ⟨⟨_, rfl, ?_⟩, trivial⟩
            refine sv (PV.nilCheck rfl) ?_; refine yq153 ?_
            refine TS.ways [25] (by kernel_rfl) rfl zq18 ⟨⟨_, rfl, ?_⟩, trivial⟩
            refine yq120 ?_; (exact K ⟨t91, _, lv96, _⟩ _ _ ⟨ht91, RowV.snoc hv96, hn5.snoc ⟨by dsimp only; omega, by dsimp only; omega, by dsimp only; omega⟩ ⟨by dsimp only; omega, by dsimp only; omega⟩, by rw [List.length_append, hl5]; rfl⟩ zq8 zq4)
          · (refine T.callW Wanted.none rfl rfl (next_fn _ _ _ _ ?_ ?_) zq1 ?_; (focus assumption); (focus omega); rintro _ _ _ _ ⟨rfl, n91, t91, rfl, hn91, ht91, rfl⟩); refine yq145 ?_
            refine TS.ways [9] (by kernel_rfl) rfl zq18 ⟨⟨_, rfl, ?_⟩, trivial⟩
            refine yq130 ?_; refine TS.take 20 rfl (by kernel_rfl) (by kernel_rfl) (by kernel_rfl) (by kernel_rfl) (PV.build rfl zq12) Wanted.none rfl rfl ?_
            refine TS.ways [21] (by kernel_rfl) rfl zq18 ⟨⟨_, rfl, ?_⟩, trivial⟩
            (refine T.buildSlice Wanted.none rfl rfl zq11 (by exact rfl) (by exact rfl) ?_; intro b95); refine yq24 ?_
            refine TS.ways [22] (by kernel_rfl) rfl zq18 ⟨⟨_, rfl, ?_⟩, trivial⟩
            (refine T.appendE [_, _, _, _] (lv := lv5) Wanted.none rfl rfl rfl h5 (Src.cells (m := 1) (ys := encNd ⟨s81, d, d + 1 + n91, (l.length : Int)⟩) (.own zq2) rfl rfl) (one_encNd _) (by omega) ?_; intro v96 lv96 hv96 _; obtain ⟨ad96, cap96, rfl⟩ := hv96.val); refine yq24 ?_
            refine TS.ways [23] (by kernel_rfl) rfl zq18 ⟨⟨_, rfl, ?_⟩, trivial⟩
            refine sv (PV.nilCheck rfl) ?_; refine yq153 ?_
            refine TS.ways [25] (by kernel_rfl) rfl zq18 ⟨⟨_, rfl, ?_⟩, trivial⟩
            refine yq120 ?_; (exact K ⟨t91, _, lv96, _⟩ _ _ ⟨ht91, RowV.snoc hv96, hn5.snoc ⟨by dsimp only; omega, by dsimp only; omega, by dsimp only; omega⟩ ⟨by dsimp only; omega, by dsimp only; omega⟩, by rw [List.length_append, hl5]; rfl⟩ zq8 zq4)
        · (refine T.callW Wanted.none rfl rfl (next_fn _ _ _ _ ?_ ?_) zq1 ?_; (focus assumption); (focus omega); rintro _ _ _ _ ⟨rfl, n91, t91, rfl, hn91, ht91, rfl⟩); refine yq145 ?_
          refine TS.ways [5] (by kernel_rfl) rfl zq18 ⟨⟨_, rfl, ?_⟩, trivial⟩
          (refine T.buildSlice Wanted.none rfl rfl zq11 (by exact rfl) (by exact rfl) ?_; intro b79); refine yq103 ?_
          refine TS.ways [9] (by kernel_rfl) rfl zq18 ⟨⟨_, rfl, ?_⟩, trivial⟩
          refine yq130 ?_; refine TS.take 20 rfl (by kernel_rfl) (by kernel_rfl) (by kernel_rfl) (by kernel_rfl) (PV.build rfl zq12) Wanted.none rfl rfl ?_
          refine TS.ways [21] (by kernel_rfl) rfl zq18 ⟨⟨_, rfl, ?_⟩, trivial⟩
          (refine T.buildSlice Wanted.none rfl rfl zq11 (by exact rfl) (by exact rfl) ?_; intro b95); refine yq24 ?_
          refine TS.ways [22] (by kernel_rfl) rfl zq18 ⟨⟨_, rfl, ?_⟩, trivial⟩
          (refine T.appendE [_, _, _, _] (lv := lv5) Wanted.none rfl rfl rfl h5 (Src.cells (m := 1) (ys := encNd ⟨s81, d, d + 1 + n91, (l.length : Int)⟩) (.own zq2) rfl rfl) (one_encNd _) (by omega) ?_; intro v96 lv96 hv96 _; obtain ⟨ad96, cap96, rfl⟩ := hv96.val); refine yq24 ?_
          refine TS.ways [23] (by kernel_rfl) rfl zq18 ⟨⟨_, rfl, ?_⟩, trivial⟩
          refine sv (PV.nilCheck rfl) ?_; refine yq153 ?_
          refine TS.ways [25] (by kernel_rfl) rfl zq18 ⟨⟨_, rfl, ?_⟩, trivial⟩
          refine yq120 ?_; (exact K ⟨t91, _, lv96, _⟩ _ _ ⟨ht91, RowV.snoc hv96, hn5.snoc ⟨by dsimp only; omega, by dsimp only; omega, by dsimp only; omega⟩ ⟨by dsimp only; omega, by dsimp only; omega⟩, by rw [List.length_append, hl5]; rfl⟩ zq8 zq4)
    rintro ⟨t8, v8, lv8, l8⟩ ⟨ht8, h8, hn8, hl8⟩
    dsimp only at ht8 h8 hn8 hl8 ⊢
    obtain ⟨ad8, cap8, rfl⟩ := h8.val
    refine yq81 ?_; refine yq0 ?_; refine yq35 ?_; refine sm ?_; refine yq77 ?_
    rw [hk1']
    exact T.next ⟨k - 1, e, t8, ad8, cap8, lv8, l8⟩ ⟨ht8, h8, hn8, ⟨by dsimp only; omega, by dsimp only; omega⟩, by dsimp only; omega⟩ (by dsimp only; omega) zq8 zq4 rfl
  · have hx3d : decide (x3 = 1) = false := decide_eq_false hx3'
    refine sv (PV.eql rfl rfl) ?_; refine so ?_; refine yq108 ?_; refine yq81 ?_; refine yq0 ?_; refine yq35 ?_; refine sm ?_; refine yq77 ?_
    rw [hk1']
    exact T.next ⟨k - 1, e, t6, ad5, cap5, lv5, l5⟩ ⟨ht6, h5, hn5, ⟨by dsimp only; omega, by dsimp only; omega⟩, by dsimp only; omega⟩ (by dsimp only; omega) zq8 zq4 rfl
end Go.Proofs.YthacphfjchpoaaaGreatDoor
