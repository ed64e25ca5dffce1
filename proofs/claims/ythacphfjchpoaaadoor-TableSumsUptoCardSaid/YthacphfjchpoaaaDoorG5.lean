/- made corpora: the tables of words; strings compared.
   made corpora: regions in order.
   made corpora: SortRegions.
   made corpora: constituents. -/
import Derived.Test.YthacphfjchpoaaaDoorG4
namespace Go.Proofs.YthacphfjchpoaaaDoor
open Go.RowKit


def bs (l : List UInt8) : ByteArray := ⟨l.toArray⟩
/-- one of some strings -/
def StrOf (l : List ByteArray) (u : Value) : Prop := ∃ s ∈ l, u = .string s
def types : List ByteArray := [bs [115], bs [110, 112], bs [116]]
end Go.Proofs.YthacphfjchpoaaaDoor
namespace Go.Proofs.YthacphfjchpoaaaDoor
open Go.RowKit


def encPr (p : ByteArray × ByteArray) : List Value := [.string p.1, .string p.2]
theorem encPr_len (p : ByteArray × ByteArray) : (encPr p).length = 2 := rfl
structure Rg where
  ty : ByteArray
  b : Int
  e : Int
  kv : Value
  ks : List (ByteArray × ByteArray)
def PrL (H : Hp) (v : Value) (l : List (ByteArray × ByteArray)) : Prop := SlR H 2 v l.length (l.flatMap encPr) ∧ (l.length ≤ 1000 ∧ ∀ p ∈ l, p.2.size ≤ 1000000)
def RgOk (H : Hp) (r : Rg) : Prop := PrL H r.kv r.ks
theorem PrL.mono {H H' : Hp} {v : Value} {l : List (ByteArray × ByteArray)} (h : PrL H v l) (hl : H.le H') : PrL H' v l := ⟨h.1.mono hl, h.2⟩
theorem RgOk.mono {H H' : Hp} {r : Rg} (h : RgOk H r) (hl : H.le H') : RgOk H' r := PrL.mono h hl
def rgV (r : Rg) : Value := .agg #[.string r.ty, .int .i64 r.b, .int .i64 r.e, r.kv]
def encRg (r : Rg) : List Value := [.string r.ty, .int .i64 r.b, .int .i64 r.e, r.kv]
theorem encRg_len (r : Rg) : (encRg r).length = 4 := rfl
end Go.Proofs.YthacphfjchpoaaaDoor
namespace Go.Proofs.YthacphfjchpoaaaDoor
open Go.RowKit


abbrev RgL (H : Hp) (v : Value) (l : List Rg) : Prop := SlR H 4 v l.length (l.flatMap encRg) ∧ ∀ r ∈ l, RgOk H r
def zeroRg : Rg := ⟨bs [], 0, 0, .slice none 0 0, []⟩
end Go.Proofs.YthacphfjchpoaaaDoor
namespace Go.Proofs.YthacphfjchpoaaaDoor
open Go.RowKit


structure Nd where
  lb : ByteArray
  b : Int
  e : Int
  p : Int
def encNd (n : Nd) : List Value := [.string n.lb, .int .i64 n.b, .int .i64 n.e, .int .i64 n.p]
/-- constituents of a corpus of n tokens -/
def nodesOk (n : Int) (l : List Nd) : Prop := ∀ (i : Nat) (x : Nd), l[i]? = some x → (0 ≤ x.b ∧ x.b < x.e ∧ x.e ≤ n) ∧ -1 ≤ x.p ∧ x.p < i
theorem nodesOk.snoc {n : Int} {l : List Nd} {x : Nd} (h : nodesOk n l) (h1 : 0 ≤ x.b ∧ x.b < x.e ∧ x.e ≤ n) (h2 : -1 ≤ x.p ∧ x.p < l.length) : nodesOk n (l ++ [x]) := by
  intro i y hy
  rcases Nat.lt_or_ge i l.length with hi | hi
  · rw [List.getElem?_append_left hi] at hy
    exact h i y hy
  · rw [List.getElem?_append_right hi] at hy
    have h0 : i - l.length = 0 := by
      have := (List.getElem?_eq_some_iff.1 hy).1
      simp at this; omega
    rw [h0] at hy
    simp at hy
    subst hy
    exact ⟨h1, h2.1, by omega⟩
abbrev NdL (H : Hp) (v : Value) (l : List Nd) : Prop := SlR H 4 v l.length (l.flatMap encNd)
end Go.Proofs.YthacphfjchpoaaaDoor
