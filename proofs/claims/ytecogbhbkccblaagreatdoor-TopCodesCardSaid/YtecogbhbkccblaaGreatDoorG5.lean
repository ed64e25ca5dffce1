/- made corpora: the tables of words; strings compared.
   made corpora: regions in order.
   made corpora: SortRegions.
   made corpora: constituents. -/
import Derived.Test.YtecogbhbkccblaaGreatDoorG4
set_option maxRecDepth 4000
set_option maxHeartbeats 40000000
set_option linter.all false
namespace Go.Proofs.YtecogbhbkccblaaGreatDoor
open Go.RowKit


def bs (l : List UInt8) : ByteArray := ⟨l.toArray⟩
def types : List ByteArray := [bs [115], bs [110, 112], bs [116]]
/-! ### strings compared -/
theorem sign_fn (b : Bool) (H : Hp) : Fn Tryz.prog 203 #[.bool b] H (fun u _ => u = .int .i64 (if b then -1 else 1)) := by
  refine Fn.of_T (vs := [.bool b]) Tryz.func203 rfl rfl fun w => ?_
  cases b
  · refine J15 ?_
    exact T.retF (Lv.fin (RV.tmp rfl rfl) rfl)
  · refine J14 ?_
    exact T.retF (Lv.fin (RV.tmp rfl rfl) rfl)
def cmpB (a b : ByteArray) : Int := if Op.bytesLess a.data.toList b.data.toList = true then -1 else if (!(Op.bytesLess a.data.toList b.data.toList || decide (a = b))) = true then 1 else 0
theorem scompare_fn (a b : ByteArray) (H : Hp) : Fn Tryz.prog 204 #[.string a, .string b] H (fun u _ => u = .int .i64 (cmpB a b)) := by
  refine Fn.of_T (vs := [.string a, .string b]) Tryz.func204 rfl rfl fun w => ?_; refine J10 ?_; refine sv (PV.slss rfl rfl) ?_; refine J2 ?_
  refine T.cond rfl (fun h1 => ?_) (fun h1 => ?_)
  · refine J4 ?_
    exact T.retF (Lv.fin (RV.tmp rfl rfl) (by unfold cmpB; rw [if_pos h1]))
  · refine J4 ?_; refine sv (PV.sgtr rfl rfl) ?_; refine J2 ?_
    refine T.cond rfl (fun h2 => ?_) (fun h2 => ?_)
    · refine J4 ?_
      exact T.retF (Lv.fin (RV.tmp rfl rfl) (by unfold cmpB; rw [if_neg (by rw [h1]; simp), if_pos h2]))
    · refine J6 ?_
      exact T.retF (Lv.fin (RV.tmp rfl rfl) (by unfold cmpB; rw [if_neg (by rw [h1]; simp), if_neg (by rw [h2]; simp)]))

end Go.Proofs.YtecogbhbkccblaaGreatDoor
namespace Go.Proofs.YtecogbhbkccblaaGreatDoor
open Go.RowKit


def encPr (p : ByteArray × ByteArray) : List Value := [.string p.1, .string p.2]
theorem encPr_len (p : ByteArray × ByteArray) : (encPr p).length = 2 := rfl
structure Rg where
  ty : ByteArray
  b : Int
  e : Int
  kv : Value
  ks : List (ByteArray × ByteArray)
def rgV (r : Rg) : Value := .agg #[.string r.ty, .int .i64 r.b, .int .i64 r.e, r.kv]
def encRg (r : Rg) : List Value := [.string r.ty, .int .i64 r.b, .int .i64 r.e, r.kv]
theorem encRg_len (r : Rg) : (encRg r).length = 4 := rfl
def cmpKeys : List (ByteArray × ByteArray) → List (ByteArray × ByteArray) → Int
  | p :: ps, q :: qs => if p.1 ≠ q.1 then cmpB p.1 q.1 else if p.2 ≠ q.2 then cmpB p.2 q.2 else cmpKeys ps qs
  | [], [] => 0
  | [], _ :: _ => -1
  | _ :: _, [] => 1
theorem cmpKeys_drop {a b : List (ByteArray × ByteArray)} {i : Nat} {p q : ByteArray × ByteArray} (hx : a[i]? = some p) (hy : b[i]? = some q) : cmpKeys (a.drop i) (b.drop i) = if p.1 ≠ q.1 then cmpB p.1 q.1 else if p.2 ≠ q.2 then cmpB p.2 q.2 else cmpKeys (a.drop (i + 1)) (b.drop (i + 1)) := by
  have h1 := List.getElem?_eq_some_iff.1 hx
  have h2 := List.getElem?_eq_some_iff.1 hy
  rw [List.drop_eq_getElem_cons h1.1, List.drop_eq_getElem_cons h2.1, h1.2, h2.2, cmpKeys]
theorem cmpKeys_end {a b : List (ByteArray × ByteArray)} {i : Nat} (h : a.length ≤ i ∨ b.length ≤ i) (ha : i ≤ a.length) (hb : i ≤ b.length) : cmpKeys (a.drop i) (b.drop i) = if a.length ≠ b.length then (if a.length < b.length then -1 else 1) else 0 := by
  by_cases h1 : a.length ≤ i
  · rw [List.drop_of_length_le h1]
    cases hd : b.drop i with
    | nil =>
      have := congrArg List.length hd
      simp at this
      rw [if_neg zO]; rfl
    | cons q t =>
      have := congrArg List.length hd
      simp at this
      rw [if_pos zO, if_pos zO]; rfl
  · have h2 : b.length ≤ i := by omega
    rw [List.drop_of_length_le h2]
    cases hd : a.drop i with
    | nil =>
      have := congrArg List.length hd
      simp at this
      omega
    | cons q t =>
      have := congrArg List.length hd
      simp at this
      rw [if_pos zO, if_neg zO]; rfl
def cmpRg (x y : Rg) : Int := if x.b ≠ y.b then (if x.b < y.b then -1 else 1) else if x.e ≠ y.e then (if y.e < x.e then -1 else 1) else if x.ty ≠ y.ty then cmpB x.ty y.ty else cmpKeys x.ks y.ks
end Go.Proofs.YtecogbhbkccblaaGreatDoor
namespace Go.Proofs.YtecogbhbkccblaaGreatDoor
open Go.RowKit


end Go.Proofs.YtecogbhbkccblaaGreatDoor
namespace Go.Proofs.YtecogbhbkccblaaGreatDoor
open Go.RowKit


structure Nd where
  lb : ByteArray
  b : Int
  e : Int
  p : Int
def encNd (n : Nd) : List Value := [.string n.lb, .int .i64 n.b, .int .i64 n.e, .int .i64 n.p]
theorem encNd_len (n : Nd) : (encNd n).length = 4 := rfl
abbrev NdL (H : Hp) (v : Value) (l : List Nd) : Prop := SlR H 4 v l.length (l.flatMap encNd)
end Go.Proofs.YtecogbhbkccblaaGreatDoor
