/- made corpora: the tables of words; strings compared.
   made corpora: regions in order.
   made corpora: SortRegions.
   made corpora: constituents. -/
import Derived.Test.YtbcadnjfegiakaaGreatDoorG4
namespace Go.Proofs.YtbcadnjfegiakaaGreatDoor
open Go.RowKit


def bs (l : List UInt8) : ByteArray := ⟨l.toArray⟩
def types : List ByteArray := [bs [115], bs [110, 112], bs [116]]
/-! ### strings compared -/
theorem sign_fn (b : Bool) (H : Hp) : Fn Tryz.prog 197 #[.bool b] H (fun u _ => u = .int .i64 (if b then -1 else 1)) := by
  refine Fn.of_T (vs := [.bool b]) Tryz.func197 rfl rfl fun w => ?_
  cases b
  · refine zs3 ?_; refine yq11 ?_; refine yq4 ?_; refine so ?_; refine yq7 ?_; refine zs3 ?_; refine yq0 ?_
    exact T.retF (Lv.fin (RV.tmp rfl rfl) rfl)
  · refine zs3 ?_; refine yq11 ?_; refine yq4 ?_; refine so ?_; refine T.condT rfl rfl ?_; refine zs3 ?_; refine yq0 ?_
    exact T.retF (Lv.fin (RV.tmp rfl rfl) rfl)
def cmpB (a b : ByteArray) : Int := if Op.bytesLess a.data.toList b.data.toList = true then -1 else if (!(Op.bytesLess a.data.toList b.data.toList || decide (a = b))) = true then 1 else 0
theorem scompare_fn (a b : ByteArray) (H : Hp) : Fn Tryz.prog 198 #[.string a, .string b] H (fun u _ => u = .int .i64 (cmpB a b)) := by
  refine Fn.of_T (vs := [.string a, .string b]) Tryz.func198 rfl rfl fun w => ?_; refine zs3 ?_; refine yq11 ?_; refine T.block ?_; refine yq4 ?_; refine sm ?_; refine sv (PV.slss rfl rfl) ?_; refine yq0 ?_
  refine T.cond rfl (fun h1 => ?_) (fun h1 => ?_)
  · refine zs3 ?_; refine yq0 ?_
    exact T.retF (Lv.fin (RV.tmp rfl rfl) (by unfold cmpB; rw [if_pos h1]))
  · refine yq4 ?_; refine sm ?_; refine sv (PV.sgtr rfl rfl) ?_; refine yq0 ?_
    refine T.cond rfl (fun h2 => ?_) (fun h2 => ?_)
    · refine zs3 ?_; refine yq0 ?_
      exact T.retF (Lv.fin (RV.tmp rfl rfl) (by unfold cmpB; rw [if_neg (by rw [h1]; simp), if_pos h2]))
    · refine T.skip ?_; refine T.blkEnd ?_; refine zs3 ?_; refine yq0 ?_
      exact T.retF (Lv.fin (RV.tmp rfl rfl) (by unfold cmpB; rw [if_neg (by rw [h1]; simp), if_neg (by rw [h2]; simp)]))

end Go.Proofs.YtbcadnjfegiakaaGreatDoor
namespace Go.Proofs.YtbcadnjfegiakaaGreatDoor
open Go.RowKit


def encPr (p : ByteArray × ByteArray) : List Value := [.string p.1, .string p.2]
theorem encPr_len (p : ByteArray × ByteArray) : (encPr p).length = 2 := rfl
structure Rg where
  ty : ByteArray
  b : Int
  e : Int
  kv : Value
  ks : List (ByteArray × ByteArray)
def PrL (H : Hp) (v : Value) (l : List (ByteArray × ByteArray)) : Prop := SlR H 2 v l.length (l.flatMap encPr) ∧ (l.length ≤ 1000 ∧ ∀ p ∈ l, p.2.size ≤ 1000000)
def RgOk (H : Hp) (r : Rg) : Prop := PrL H r.kv r.ks
theorem PrL.mono {H H' : Hp} {v : Value} {l : List (ByteArray × ByteArray)} (h : PrL H v l) (hl : H.le H') : PrL H' v l := ⟨h.1.mono hl, h.2⟩
theorem RgOk.mono {H H' : Hp} {r : Rg} (h : RgOk H r) (hl : H.le H') : RgOk H' r := PrL.mono h hl
def rgV (r : Rg) : Value := .agg #[.string r.ty, .int .i64 r.b, .int .i64 r.e, r.kv]
def encRg (r : Rg) : List Value := [.string r.ty, .int .i64 r.b, .int .i64 r.e, r.kv]
theorem encRg_len (r : Rg) : (encRg r).length = 4 := rfl
def cmpKeys : List (ByteArray × ByteArray) → List (ByteArray × ByteArray) → Int
  | p :: ps, q :: qs => if p.1 ≠ q.1 then cmpB p.1 q.1 else if p.2 ≠ q.2 then cmpB p.2 q.2 else cmpKeys ps qs
  | [], [] => 0
  | [], _ :: _ => -1
  | _ :: _, [] => 1
theorem cmpKeys_drop {a b : List (ByteArray × ByteArray)} {i : Nat} {p q : ByteArray × ByteArray} (hx : a[i]? = some p) (hy : b[i]? = some q) : cmpKeys (a.drop i) (b.drop i) = if p.1 ≠ q.1 then cmpB p.1 q.1 else if p.2 ≠ q.2 then cmpB p.2 q.2 else cmpKeys (a.drop (i + 1)) (b.drop (i + 1)) := by
  have h1 := List.getElem?_eq_some_iff.1 hx
  have h2 := List.getElem?_eq_some_iff.1 hy
  rw [List.drop_eq_getElem_cons h1.1, List.drop_eq_getElem_cons h2.1, h1.2, h2.2, cmpKeys]
theorem cmpKeys_end {a b : List (ByteArray × ByteArray)} {i : Nat} (h : a.length ≤ i ∨ b.length ≤ i) (ha : i ≤ a.length) (hb : i ≤ b.length) : cmpKeys (a.drop i) (b.drop i) = if a.length ≠ b.length then (if a.length < b.length then -1 else 1) else 0 := by
  by_cases h1 : a.length ≤ i
  · rw [List.drop_of_length_le h1]
    cases hd : b.drop i with
    | nil =>
      have := congrArg List.length hd
      simp at this
      rw [if_neg (by omega)]; rfl
    | cons q t =>
      have := congrArg List.length hd
      simp at this
      rw [if_pos (by omega), if_pos (by omega)]; rfl
  · have h2 : b.length ≤ i := by omega
    rw [List.drop_of_length_le h2]
    cases hd : a.drop i with
    | nil =>
      have := congrArg List.length hd
      simp at this
      omega
    | cons q t =>
      have := congrArg List.length hd
      simp at this
      rw [if_pos (by omega), if_neg (by omega)]; rfl
def cmpRg (x y : Rg) : Int := if x.b ≠ y.b then (if x.b < y.b then -1 else 1) else if x.e ≠ y.e then (if y.e < x.e then -1 else 1) else if x.ty ≠ y.ty then cmpB x.ty y.ty else cmpKeys x.ks y.ks
end Go.Proofs.YtbcadnjfegiakaaGreatDoor
namespace Go.Proofs.YtbcadnjfegiakaaGreatDoor
open Go.RowKit


abbrev RgL (H : Hp) (v : Value) (l : List Rg) : Prop := SlR H 4 v l.length (l.flatMap encRg) ∧ ∀ r ∈ l, RgOk H r
end Go.Proofs.YtbcadnjfegiakaaGreatDoor
namespace Go.Proofs.YtbcadnjfegiakaaGreatDoor
open Go.RowKit


structure Nd where
  lb : ByteArray
  b : Int
  e : Int
  p : Int
def encNd (n : Nd) : List Value := [.string n.lb, .int .i64 n.b, .int .i64 n.e, .int .i64 n.p]
theorem encNd_len (n : Nd) : (encNd n).length = 4 := rfl
/-- constituents of a corpus of n tokens -/
def nodesOk (n : Int) (l : List Nd) : Prop := ∀ (i : Nat) (x : Nd), l[i]? = some x → (0 ≤ x.b ∧ x.b < x.e ∧ x.e ≤ n) ∧ -1 ≤ x.p ∧ x.p < i
theorem nodesOk.snoc {n : Int} {l : List Nd} {x : Nd} (h : nodesOk n l) (h1 : 0 ≤ x.b ∧ x.b < x.e ∧ x.e ≤ n) (h2 : -1 ≤ x.p ∧ x.p < l.length) : nodesOk n (l ++ [x]) := by
  intro i y hy
  rcases Nat.lt_or_ge i l.length with hi | hi
  · rw [List.getElem?_append_left hi] at hy
    exact h i y hy
  · rw [List.getElem?_append_right hi] at hy
    have h0 : i - l.length = 0 := by
      have := (List.getElem?_eq_some_iff.1 hy).1
      simp at this; omega
    rw [h0] at hy
    simp at hy
    subst hy
    exact ⟨h1, h2.1, by omega⟩
abbrev NdL (H : Hp) (v : Value) (l : List Nd) : Prop := SlR H 4 v l.length (l.flatMap encNd)
end Go.Proofs.YtbcadnjfegiakaaGreatDoor
