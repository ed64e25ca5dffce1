/- made corpora: names and values: what is read is in range.
   Plain: the units of a string, as the model decodes them.
   strings: the reference's units; which strings are valid.
   made corpora: a corpus; values, pairs, places in texts.
   made corpora: a corpus; its parts are looked at. -/
import GoSem.Core.Utf8
import Derived.WalkKit
import Derived.Test.YtlklcjpmfjmenaaDoorG5
namespace Go.Proofs.YtlklcjpmfjmenaaDoor
open Go.RowKit


theorem byteAt {s : ByteArray} {i : Nat} (h : i < s.size) : ∃ c : UInt8, s.data.toList[i]? = some c := by
  refine ⟨s.data.toList[i]'(by simpa using h), ?_⟩
  rw [List.getElem?_eq_getElem]
/-- may begin, or continue, a name -/
def nmFst (c : Int) : Bool := decide (c = 95) || (decide (65 ≤ c) && decide (c ≤ 90)) || (decide (97 ≤ c) && decide (c ≤ 122))
def nmNxt (c : Int) : Bool := nmFst c || (decide (48 ≤ c) && decide (c ≤ 57)) || decide (c = 45)
def nmB (c : UInt8) : Bool := nmNxt (c.toNat : Int)
def validName (s : ByteArray) : Bool := decide (1 ≤ s.size) && decide (s.size ≤ 32) && (match s.data.toList with | [] => false | c :: l => nmFst (c.toNat : Int) && l.all nmB)
end Go.Proofs.YtlklcjpmfjmenaaDoor
namespace Go.Proofs.YtlklcjpmfjmenaaDoor


end Go.Proofs.YtlklcjpmfjmenaaDoor
namespace Go.Proofs.YtlklcjpmfjmenaaDoor
open Go.RowKit


end Go.Proofs.YtlklcjpmfjmenaaDoor
namespace Go.Proofs.YtlklcjpmfjmenaaDoor
open Go.RowKit


theorem bytes_elem {l : List UInt8} {i : Nat} {c : UInt8} (hc : l[i]? = some c) : ((bytesV l).drop (i * 1)).take 1 = [.int .u8 (c.toNat : Int)] := by
  have h1 : ∀ l : List UInt8, (l.flatMap fun b : UInt8 => [Value.int .u8 (b.toNat : Int)]) = bytesV l := by
    intro l
    induction l with
    | nil => rfl
    | cons a l ih => rw [List.flatMap_cons, ih]; rfl
  have := flat_elem (f := fun b : UInt8 => [Value.int .u8 (b.toNat : Int)]) (sz := 1) (fun _ => rfl) l i c hc
  rw [h1] at this
  exact this
end Go.Proofs.YtlklcjpmfjmenaaDoor
namespace Go.Proofs.YtlklcjpmfjmenaaDoor
open Go.RowKit


def encAt (a : ByteArray × Bool) : List Value := [.string a.1, .bool a.2]
structure Tk where
  v : Value
  ss : List ByteArray
def encTk (t : Tk) : List Value := [t.v]
theorem encTk_len (t : Tk) : (encTk t).length = 1 := rfl
def TkOk (H : Hp) (t : Tk) : Prop := StL H t.v t.ss ∧ t.ss.length ≤ 1000 ∧ ∀ s ∈ t.ss, s.size ≤ 4000
theorem TkOk.mono {H H' : Hp} {t : Tk} (h : TkOk H t) (hl : H.le H') : TkOk H' t := ⟨h.1.mono hl, h.2⟩
structure Cp where
  va : Value
  att : List (ByteArray × Bool)
  vt : Value
  tk : List Tk
  vx : Value
  tx : List Rg
  vr : Value
  rg : List Rg
  vn : Value
  nd : List Nd
  vh : Value
  hd : List Int
  vs : Value
  rl : List ByteArray
def cpC (c : Cp) : List Value := [c.va, c.vt, c.vx, c.vr, c.vn, c.vh, c.vs]
def cpV (c : Cp) : Value := .agg #[c.va, c.vt, c.vx, c.vr, c.vn, c.vh, c.vs]
/-- a corpus in memory that is only read -/
structure CpL (H : Hp) (c : Cp) : Prop where
  a : SlR H 2 c.va c.att.length (c.att.flatMap encAt)
  t : SlR H 1 c.vt c.tk.length (c.tk.flatMap encTk)
  x : RgL H c.vx c.tx
  r : RgL H c.vr c.rg
  n : NdL H c.vn c.nd
  h : InL H c.vh c.hd
  s : StL H c.vs c.rl
  tO : ∀ t ∈ c.tk, TkOk H t
  la : c.att.length ≤ 1000
  lt : c.tk.length ≤ 1000
  lx : c.tx.length ≤ 1000
  lr : c.rg.length ≤ 1000
  ln : c.nd.length ≤ 1000
  lh : c.hd.length ≤ 1000
  ls : c.rl.length ≤ 1000
theorem RgL.mono {H H' : Hp} {v : Value} {l : List Rg} (h : RgL H v l) (hl : H.le H') : RgL H' v l := ⟨h.1.mono hl, fun r hr => (h.2 r hr).mono hl⟩
theorem CpL.mono {H H' : Hp} {c : Cp} (h : CpL H c) (hl : H.le H') : CpL H' c :=
  ⟨h.a.mono hl, h.t.mono hl, h.x.mono hl, h.r.mono hl, h.n.mono hl, h.h.mono hl, h.s.mono hl, fun t ht => (h.tO t ht).mono hl, h.la, h.lt, h.lx, h.lr, h.ln, h.lh, h.ls⟩
/-- where element i of a list lies, and what it is -/
theorem RowL.get {α : Type} {enc : α → List Value} {sz : Nat} (hf : ∀ x, (enc x).length = sz) {H : Hp} {ad : Option Addr} {n cap : Nat} {l : List α} (h : SlR H sz (.slice ad n cap) l.length (l.flatMap enc)) {i : Nat} (hi : i < l.length) : ∃ b off x, ad = some ⟨b, off, none⟩ ∧ l[i]? = some x ∧ SubC H b (off + i * sz) (enc x) := by
  obtain ⟨b, off, e, hs⟩ := RowL.at hf h (List.getElem?_eq_getElem hi)
  exact ⟨b, off, _, e, List.getElem?_eq_getElem hi, hs⟩
theorem CpL.open {H : Hp} {c : Cp} (hc : CpL H c) : ∃ aa ca at1 ct ax cx ar cr an cn ah ch as1 cs, cpV c = .agg #[.slice aa c.att.length ca, .slice at1 c.tk.length ct, .slice ax c.tx.length cx, .slice ar c.rg.length cr, .slice an c.nd.length cn, .slice ah c.hd.length ch, .slice as1 c.rl.length cs] ∧
    SlR H 2 (.slice aa c.att.length ca) c.att.length (c.att.flatMap encAt) ∧ SlR H 1 (.slice at1 c.tk.length ct) c.tk.length (c.tk.flatMap encTk) ∧ RgL H (.slice ax c.tx.length cx) c.tx ∧ RgL H (.slice ar c.rg.length cr) c.rg ∧
    NdL H (.slice an c.nd.length cn) c.nd ∧ InL H (.slice ah c.hd.length ch) c.hd ∧ StL H (.slice as1 c.rl.length cs) c.rl := by
  obtain ⟨aa, ca, h1⟩ := hc.a.len
  obtain ⟨at1, ct, h2⟩ := hc.t.len
  obtain ⟨ax, cx, h3⟩ := hc.x.1.len
  obtain ⟨ar, cr, h4⟩ := hc.r.1.len
  obtain ⟨an, cn, h5⟩ := hc.n.len
  obtain ⟨ah, ch, h6⟩ := hc.h.len
  obtain ⟨as1, cs, h7⟩ := hc.s.len
  exact ⟨aa, ca, at1, ct, ax, cx, ar, cr, an, cn, ah, ch, as1, cs, by unfold cpV; rw [h1, h2, h3, h4, h5, h6, h7], h1 ▸ hc.a, h2 ▸ hc.t, h3 ▸ hc.x, h4 ▸ hc.r, h5 ▸ hc.n, h6 ▸ hc.h, h7 ▸ hc.s⟩
end Go.Proofs.YtlklcjpmfjmenaaDoor
