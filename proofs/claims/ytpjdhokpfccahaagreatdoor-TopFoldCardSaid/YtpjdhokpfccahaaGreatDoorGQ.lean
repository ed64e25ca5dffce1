/- the first rune of a text: unicode/utf8.DecodeRuneInString, walked where the text begins with an encoded code point.
   codepoint: At. -/
import Derived.Lib.LaidU8
import Derived.Test.YtpjdhokpfccahaaGreatDoorGP
import Derived.Test.YtpjdhokpfccahaaGreatDoorGB
namespace Go.Proofs.YtpjdhokpfccahaaGreatDoor
open Go.RowKit

/-- the library's tables lie in the heap -/
def U8T (H : Hp) : Prop :=
  (∃ (cs : Array Value) (t : TypeId) (fz : Nat × Nat), H 0 = some (.cells cs t fz) ∧ ∀ c : Nat, c < 256 → cs[c]? = some (.int .u8 (Lib.firstT c))) ∧
  (∃ (cs : Array Value) (t : TypeId) (fz : Nat × Nat), H 1 = some (.cells cs t fz) ∧ ∀ i : Nat, i < 16 → cs[2 * i]? = some (.int .u8 (Lib.accLo i)) ∧ cs[2 * i + 1]? = some (.int .u8 (Lib.accHi i)))
theorem U8T.mono {H H' : Hp} (h : U8T H) (hl : H.le H') : U8T H' := by
  obtain ⟨⟨cs, t, fz, h1, h2⟩, ds, t', fz', h3, h4⟩ := h
  exact ⟨⟨cs, t, fz, hl _ _ h1, h2⟩, ds, t', fz', hl _ _ h3, h4⟩
theorem cell_open {W : World} {g c : Nat} {v : Value} (h : W.cell? ⟨g, c, none⟩ = some v) : ∃ cs t fz, W.heap[g]? = some (.cells cs t fz) ∧ cs[c]? = some v := by
  unfold World.cell? at h
  split at h
  · rename_i cs t fz hc
    exact ⟨cs, t, fz, hc, h⟩
  · cases h
theorem U8T.of {W : World} (h : Lib.Utf8Tabs 0 1 W) : U8T fun b => W.heap[b]? := by
  obtain ⟨h1, h2⟩ := h
  constructor
  · obtain ⟨cs, t, fz, h3, _⟩ := cell_open (h1 0 (by omega))
    refine ⟨cs, t, fz, h3, fun c hc => ?_⟩
    obtain ⟨cs', t', fz', h4, h5⟩ := cell_open (h1 c hc)
    rw [h3] at h4; cases h4; exact h5
  · obtain ⟨cs, t, fz, h3, _⟩ := cell_open (h2 0 (by omega)).1
    refine ⟨cs, t, fz, h3, fun i hi => ?_⟩
    obtain ⟨cs', t', fz', h4, h5⟩ := cell_open (h2 i hi).1
    obtain ⟨cs2, t2, fz2, h6, h7⟩ := cell_open (h2 i hi).2
    rw [h3] at h4 h6; cases h4; cases h6; exact ⟨h5, h7⟩
instance : ArrOf Tryz.prog 192 256 5 1 := ⟨Tryz.underlying192, fun _ => by kernel_rfl⟩
instance : ArrOf Tryz.prog 196 16 195 2 := ⟨Tryz.underlying196, fun _ => by kernel_rfl⟩
theorem U8T.first {H : Hp} (h : U8T H) (c : UInt8) {n : Nat} (hn : Lib.firstT c.toNat = n) : SubC H 0 (0 + ((c.toNat : Int)).toNat * 1) [.int .u8 (n : Int)] := by
  obtain ⟨⟨cs, t, fz, h1, h2⟩, _⟩ := h
  have h3 := h2 c.toNat (UInt8.toNat_lt c)
  rw [hn] at h3
  obtain ⟨l, rfl⟩ : ∃ l : List Value, cs = l.toArray := ⟨cs.toList, by simp⟩
  refine ⟨l, t, fz, h1, ?_⟩
  rw [Int.toNat_natCast, Nat.mul_one, Nat.zero_add]
  have h4 : l[c.toNat]? = some (.int .u8 (n : Int)) := by simpa using h3
  obtain ⟨h5, h6⟩ := List.getElem?_eq_some_iff.1 h4
  rw [List.drop_eq_getElem_cons h5, h6]; rfl
theorem U8T.accept {H : Hp} (h : U8T H) {i : Int} {j : Nat} (hi : i = (j : Int)) (hj : j < 16) {lo hi' : Nat} (h1 : Lib.accLo j = lo) (h2 : Lib.accHi j = hi') : SubC H 1 (0 + i.toNat * 2) [.int .u8 (lo : Int), .int .u8 (hi' : Int)] := by
  obtain ⟨_, cs, t, fz, h3, h4⟩ := h
  obtain ⟨h5, h6⟩ := h4 j hj
  rw [h1] at h5
  rw [h2] at h6
  obtain ⟨l, rfl⟩ : ∃ l : List Value, cs = l.toArray := ⟨cs.toList, by simp⟩
  refine ⟨l, t, fz, h3, ?_⟩
  subst hi
  rw [Int.toNat_natCast, Nat.zero_add, Nat.mul_comm]
  have h7 : l[2 * j]? = some (.int .u8 (lo : Int)) := by simpa using h5
  have h8 : l[2 * j + 1]? = some (.int .u8 (hi' : Int)) := by simpa using h6
  obtain ⟨g1, g2⟩ := List.getElem?_eq_some_iff.1 h7
  obtain ⟨g3, g4⟩ := List.getElem?_eq_some_iff.1 h8
  rw [List.drop_eq_getElem_cons g1, List.drop_eq_getElem_cons g3, g2, g4]; rfl
set_option maxRecDepth 100000 in
set_option maxHeartbeats 1000000 in
theorem slow2_fn (s : ByteArray) (c0 c1 : UInt8) (r x j lo hi : Nat) (H : Hp) (hT : U8T H) (h0 : s.data.toList[0]? = some c0) (h1 : s.data.toList[1]? = some c1) (e0 : (c0.toNat : Int) = 192 + (r : Int) / 64) (e1 : (c1.toNat : Int) = 128 + (r : Int) % 64) (hr : 128 ≤ r ∧ r < 2048)
    (hx : Lib.firstT c0.toNat = x) (hx2 : x < 240) (h7 : bits .and .u8 (x : Int) 7 = 2) (h4 : shrI .u8 (x : Int) 4 = (j : Int)) (hj : j < 16) (hlo : Lib.accLo j = lo) (hhi : Lib.accHi j = hi) (hb : (lo : Int) ≤ c1.toNat ∧ (c1.toNat : Int) ≤ hi) :
    Fn Tryz.prog 118 #[.string s] H (fun u _ => u = .tuple #[.int .i32 (r : Int), .int .i64 2]) := by
  have h0' : s.data.toList[(0 : Int).toNat]? = some c0 := h0
  have h1' : s.data.toList[(1 : Int).toNat]? = some c1 := h1
  have hl : s.data.toList.length = s.size := Array.length_toList
  have hsz := (List.getElem?_eq_some_iff.1 h1).1
  have hf := hT.first c0 hx
  have ha := hT.accept (i := (j : Int)) rfl hj hlo hhi
  have a0 : bits .and .u8 (c0.toNat : Int) 31 = (c0.toNat : Int) % 32 := u8_and31 _ (by omega) (by omega)
  have a1 : bits .and .u8 (c1.toNat : Int) 63 = (c1.toNat : Int) % 64 := u8_and63 _ (by omega) (by omega)
  have s0 : shlI .i32 ((c0.toNat : Int) % 32) 6 = (c0.toNat : Int) % 32 * 64 := shlI_of 64 rfl rfl (by omega)
  have o1 : bits .or .i32 ((c0.toNat : Int) % 32 * 64) ((c1.toNat : Int) % 64) = (r : Int) := (i32_or6 _ _ (by omega) (by omega) (by omega) (by omega) (by omega)).trans (by omega)
  refine Fn.of_T (vs := [.string s]) Tryz.func118 rfl rfl fun w => ?_; refine zs3 ?_; refine sa ?_; refine sa ?_; refine zs1 ?_; refine sm ?_; refine sv (PV.lenStr rfl) ?_; refine sa ?_; refine so ?_; refine sq ?_; refine zs3 ?_; refine sm ?_; refine sv (PV.lss rfl rfl) ?_; refine so ?_; refine sd rfl (by omega) ?_; refine T.skip ?_; refine zs3 ?_; refine sm ?_; refine sv (PV.indexStr rfl rfl (by omega) (by assumption)) ?_; refine sa ?_; refine zs1 ?_; refine sm ?_; refine sv (PV.indexArrG rfl rfl (by omega)) ?_; refine sv (PV.loadSub0 rfl (by assumption)) ?_; refine sa ?_; refine so ?_; refine sq ?_; refine zs3 ?_; refine sm ?_; refine sv (PV.geq rfl rfl) ?_; refine so ?_; refine sd rfl (by omega) ?_; refine T.skip ?_; refine zs3 ?_; refine sm ?_; refine sv (PV.bandR rfl rfl (by assumption)) ?_; refine sv (PV.conv64 rfl (by omega)) ?_; refine sa ?_; refine zs1 ?_; refine sm ?_
  refine sv (PV.shrR rfl rfl (by assumption) (by omega)) ?_; refine sv (PV.indexArrG rfl rfl (by omega)) ?_; refine sv (PV.loadSubAll rfl (by assumption) (by exact rfl)) ?_; refine sy fun b9 => ?_; refine T.storeA Wanted.none rfl rfl zq8 (by exact rfl) zq14 zq13 ?_; refine so ?_; refine sq ?_; refine zs3 ?_; refine sm ?_; refine sm ?_; refine sv (PV.lss rfl rfl) ?_; refine so ?_; refine sd rfl (by omega) ?_; refine T.skip ?_; refine zs3 ?_; refine sm ?_; refine sv (PV.indexStr rfl rfl (by omega) (by assumption)) ?_; refine sa ?_; refine so ?_; refine sq ?_; refine zs3 ?_; refine sm ?_; refine sf ?_; refine sl ?_; refine sv (PV.lss rfl rfl) ?_; refine sm ?_; refine T.setF (d := 52) rfl (by omega) ?_; refine gf ?_; refine gl ?_; refine gm ?_; refine gv (PV.lss rfl rfl) ?_; refine sF ?_; refine so ?_; refine sd rfl (by omega) ?_; refine T.skip ?_; refine sq ?_; refine zs3 ?_; refine sm ?_; refine sv (PV.leq rfl rfl) ?_; refine so ?_
  refine T.condT rfl rfl ?_; refine zs3 ?_; refine sm ?_; refine sv (PV.bandR rfl rfl (by assumption)) ?_; refine sv (PV.convB rfl (by omega)) ?_; refine sv (PV.shlR rfl rfl (by assumption) (by omega)) ?_; refine sm ?_; refine sv (PV.bandR rfl rfl (by assumption)) ?_; refine sv (PV.convB rfl (by omega)) ?_; refine sv (PV.borR rfl rfl (by assumption)) ?_; refine sa ?_; refine sa ?_; refine so ?_
  exact T.retF (Lv.fin (RV.tmp2 rfl rfl rfl) rfl)
set_option maxRecDepth 100000 in
set_option maxHeartbeats 1000000 in
theorem slow3_fn (s : ByteArray) (c0 c1 c2 : UInt8) (r x j lo hi : Nat) (H : Hp) (hT : U8T H) (h0 : s.data.toList[0]? = some c0) (h1 : s.data.toList[1]? = some c1) (h2 : s.data.toList[2]? = some c2) (e0 : (c0.toNat : Int) = 224 + (r : Int) / 4096) (e1 : (c1.toNat : Int) = 128 + (r : Int) / 64 % 64) (e2 : (c2.toNat : Int) = 128 + (r : Int) % 64) (hr : 2048 ≤ r ∧ r < 65536)
    (hx : Lib.firstT c0.toNat = x) (hx2 : x < 240) (h7 : bits .and .u8 (x : Int) 7 = 3) (h4 : shrI .u8 (x : Int) 4 = (j : Int)) (hj : j < 16) (hlo : Lib.accLo j = lo) (hhi : Lib.accHi j = hi) (hb : (lo : Int) ≤ c1.toNat ∧ (c1.toNat : Int) ≤ hi) :
    Fn Tryz.prog 118 #[.string s] H (fun u _ => u = .tuple #[.int .i32 (r : Int), .int .i64 3]) := by
  have h0' : s.data.toList[(0 : Int).toNat]? = some c0 := h0
  have h1' : s.data.toList[(1 : Int).toNat]? = some c1 := h1
  have h2' : s.data.toList[(2 : Int).toNat]? = some c2 := h2
  have hl : s.data.toList.length = s.size := Array.length_toList
  have hsz := (List.getElem?_eq_some_iff.1 h2).1
  have hf := hT.first c0 hx
  have ha := hT.accept (i := (j : Int)) rfl hj hlo hhi
  have a0 : bits .and .u8 (c0.toNat : Int) 15 = (c0.toNat : Int) % 16 := u8_and15 _ (by omega) (by omega)
  have a1 : bits .and .u8 (c1.toNat : Int) 63 = (c1.toNat : Int) % 64 := u8_and63 _ (by omega) (by omega)
  have a2 : bits .and .u8 (c2.toNat : Int) 63 = (c2.toNat : Int) % 64 := u8_and63 _ (by omega) (by omega)
  have s0 : shlI .i32 ((c0.toNat : Int) % 16) 12 = (c0.toNat : Int) % 16 * 4096 := shlI_of 4096 rfl rfl (by omega)
  have s1 : shlI .i32 ((c1.toNat : Int) % 64) 6 = (c1.toNat : Int) % 64 * 64 := shlI_of 64 rfl rfl (by omega)
  have o1 : bits .or .i32 ((c0.toNat : Int) % 16 * 4096) ((c1.toNat : Int) % 64 * 64) = (c0.toNat : Int) % 16 * 4096 + (c1.toNat : Int) % 64 * 64 := i32_or12 _ _ (by omega) (by omega) (by omega) (by omega) (by omega)
  have o2 : bits .or .i32 ((c0.toNat : Int) % 16 * 4096 + (c1.toNat : Int) % 64 * 64) ((c2.toNat : Int) % 64) = (r : Int) := (i32_or6 _ _ (by omega) (by omega) (by omega) (by omega) (by omega)).trans (by omega)
  refine Fn.of_T (vs := [.string s]) Tryz.func118 rfl rfl fun w => ?_; refine zs3 ?_; refine sa ?_; refine sa ?_; refine zs1 ?_; refine sm ?_; refine sv (PV.lenStr rfl) ?_; refine sa ?_; refine so ?_; refine sq ?_; refine zs3 ?_; refine sm ?_; refine sv (PV.lss rfl rfl) ?_; refine so ?_; refine sd rfl (by omega) ?_; refine T.skip ?_; refine zs3 ?_; refine sm ?_; refine sv (PV.indexStr rfl rfl (by omega) (by assumption)) ?_; refine sa ?_; refine zs1 ?_; refine sm ?_; refine sv (PV.indexArrG rfl rfl (by omega)) ?_; refine sv (PV.loadSub0 rfl (by assumption)) ?_; refine sa ?_; refine so ?_; refine sq ?_; refine zs3 ?_; refine sm ?_; refine sv (PV.geq rfl rfl) ?_; refine so ?_; refine sd rfl (by omega) ?_; refine T.skip ?_; refine zs3 ?_; refine sm ?_; refine sv (PV.bandR rfl rfl (by assumption)) ?_; refine sv (PV.conv64 rfl (by omega)) ?_; refine sa ?_; refine zs1 ?_; refine sm ?_
  refine sv (PV.shrR rfl rfl (by assumption) (by omega)) ?_; refine sv (PV.indexArrG rfl rfl (by omega)) ?_; refine sv (PV.loadSubAll rfl (by assumption) (by exact rfl)) ?_; refine sy fun b9 => ?_; refine T.storeA Wanted.none rfl rfl zq8 (by exact rfl) zq14 zq13 ?_; refine so ?_; refine sq ?_; refine zs3 ?_; refine sm ?_; refine sm ?_; refine sv (PV.lss rfl rfl) ?_; refine so ?_; refine sd rfl (by omega) ?_; refine T.skip ?_; refine zs3 ?_; refine sm ?_; refine sv (PV.indexStr rfl rfl (by omega) (by assumption)) ?_; refine sa ?_; refine so ?_
  (repeat refine sq ?_)
  refine T.weak (e' := [(0, .string s), (5, .int .u8 (c0.toNat : Int)), (8, .int .i64 3), (9, .pointer (some ⟨b9, 0, none⟩)), (10, .int .u8 (c1.toNat : Int))]) zq8 (List.Sublist.refl _) ?_; refine sr ?_; refine sm ?_; refine sf ?_; refine sl ?_; refine sv (PV.lss rfl rfl) ?_; refine sm ?_; refine T.setF (d := 52) rfl (by omega) ?_; refine gf ?_; refine gl ?_; refine gm ?_; refine gv (PV.lss rfl rfl) ?_; refine sF ?_; refine so ?_; refine sd rfl (by omega) ?_; refine T.skip ?_; refine sq ?_; refine zs3 ?_; refine sm ?_; refine sv (PV.leq rfl rfl) ?_; refine so ?_; refine T.condF rfl rfl ?_; refine T.skip ?_; refine zs3 ?_; refine sm ?_; refine sv (PV.indexStr rfl rfl (by omega) (by assumption)) ?_; refine sa ?_; refine so ?_; refine sq ?_; refine zs3 ?_; refine sm ?_; refine sv (PV.lss rfl rfl) ?_; refine sm ?_; refine T.setF (d := 72) rfl (by omega) ?_; refine gm ?_; refine gv (PV.lss rfl rfl) ?_; refine sF ?_; refine so ?_; refine sd rfl (by omega) ?_; refine T.skip ?_
  refine sq ?_; refine zs3 ?_; refine sm ?_; refine sv (PV.leq rfl rfl) ?_; refine so ?_; refine T.condT rfl rfl ?_; refine zs3 ?_; refine sm ?_; refine sv (PV.bandR rfl rfl (by assumption)) ?_; refine sv (PV.convB rfl (by omega)) ?_; refine sv (PV.shlR rfl rfl (by assumption) (by omega)) ?_; refine sm ?_; refine sv (PV.bandR rfl rfl (by assumption)) ?_; refine sv (PV.convB rfl (by omega)) ?_; refine sv (PV.shlR rfl rfl (by assumption) (by omega)) ?_; refine sv (PV.borR rfl rfl (by assumption)) ?_; refine sm ?_; refine sv (PV.bandR rfl rfl (by assumption)) ?_; refine sv (PV.convB rfl (by omega)) ?_; refine sv (PV.borR rfl rfl (by assumption)) ?_; refine sa ?_; refine sa ?_; refine so ?_
  exact T.retF (Lv.fin (RV.tmp2 rfl rfl rfl) rfl)
set_option maxRecDepth 100000 in
set_option maxHeartbeats 1000000 in
theorem slow4_core (s : ByteArray) (c0 c1 c2 c3 : UInt8) (x j lo hi : Nat) (r A0 A1 A2 A3 B0 B1 B2 C1 C2 : Int) (H : Hp) (h0 : s.data.toList[(0 : Int).toNat]? = some c0) (h1 : s.data.toList[(1 : Int).toNat]? = some c1) (h2 : s.data.toList[(2 : Int).toNat]? = some c2) (h3 : s.data.toList[(3 : Int).toNat]? = some c3) (hsz : 3 < s.size)
    (hf : SubC H 0 (0 + ((c0.toNat : Int)).toNat * 1) [.int .u8 (x : Int)]) (ha : SubC H 1 (0 + ((j : Int)).toNat * 2) [.int .u8 (lo : Int), .int .u8 (hi : Int)])
    (q0 : (c0.toNat : Int) < 256) (q1 : (lo : Int) ≤ c1.toNat ∧ (c1.toNat : Int) ≤ hi) (q2 : 128 ≤ (c2.toNat : Int) ∧ (c2.toNat : Int) ≤ 191) (q3 : 128 ≤ (c3.toNat : Int) ∧ (c3.toNat : Int) ≤ 191)
    (hx2 : x < 240) (h7 : bits .and .u8 (x : Int) 7 = 4) (h4 : shrI .u8 (x : Int) 4 = (j : Int)) (hj : j < 16)
    (a0 : bits .and .u8 (c0.toNat : Int) 7 = A0) (a1 : bits .and .u8 (c1.toNat : Int) 63 = A1) (a2 : bits .and .u8 (c2.toNat : Int) 63 = A2) (a3 : bits .and .u8 (c3.toNat : Int) 63 = A3)
    (p0 : 0 ≤ A0 ∧ A0 < 64) (p1 : 0 ≤ A1 ∧ A1 < 64) (p2 : 0 ≤ A2 ∧ A2 < 64) (p3 : 0 ≤ A3 ∧ A3 < 64)
    (s0 : shlI .i32 A0 18 = B0) (s1 : shlI .i32 A1 12 = B1) (s2 : shlI .i32 A2 6 = B2) (o1 : bits .or .i32 B0 B1 = C1) (o2 : bits .or .i32 C1 B2 = C2) (o3 : bits .or .i32 C2 A3 = r) :
    Fn Tryz.prog 118 #[.string s] H (fun u _ => u = .tuple #[.int .i32 r, .int .i64 4]) := by
  have hl : s.data.toList.length = s.size := Array.length_toList
  refine Fn.of_T (vs := [.string s]) Tryz.func118 rfl rfl fun w => ?_; refine zs3 ?_; refine sa ?_; refine sa ?_; refine zs1 ?_; refine sm ?_; refine sv (PV.lenStr rfl) ?_; refine sa ?_; refine so ?_; refine sq ?_; refine zs3 ?_; refine sm ?_; refine sv (PV.lss rfl rfl) ?_; refine so ?_; refine sd rfl (by omega) ?_; refine T.skip ?_; refine zs3 ?_; refine sm ?_; refine sv (PV.indexStr rfl rfl (by omega) (by assumption)) ?_; refine sa ?_; refine zs1 ?_; refine sm ?_; refine sv (PV.indexArrG rfl rfl (by omega)) ?_; refine sv (PV.loadSub0 rfl (by assumption)) ?_; refine sa ?_; refine so ?_; refine sq ?_; refine zs3 ?_; refine sm ?_; refine sv (PV.geq rfl rfl) ?_; refine so ?_; refine sd rfl (by omega) ?_; refine T.skip ?_; refine zs3 ?_; refine sm ?_; refine sv (PV.bandR rfl rfl (by assumption)) ?_; refine sv (PV.conv64 rfl (by omega)) ?_; refine sa ?_; refine zs1 ?_; refine sm ?_
  refine sv (PV.shrR rfl rfl (by assumption) (by omega)) ?_; refine sv (PV.indexArrG rfl rfl (by omega)) ?_; refine sv (PV.loadSubAll rfl (by assumption) (by exact rfl)) ?_; refine sy fun b9 => ?_; refine T.storeA Wanted.none rfl rfl zq8 (by exact rfl) zq14 zq13 ?_; refine so ?_; refine sq ?_; refine zs3 ?_; refine sm ?_; refine sm ?_; refine sv (PV.lss rfl rfl) ?_; refine so ?_; refine sd rfl (by omega) ?_; refine T.skip ?_; refine zs3 ?_; refine sm ?_; refine sv (PV.indexStr rfl rfl (by omega) (by assumption)) ?_; refine sa ?_; refine so ?_
  (repeat refine sq ?_)
  refine T.weak (e' := [(0, .string s), (5, .int .u8 (c0.toNat : Int)), (8, .int .i64 4), (9, .pointer (some ⟨b9, 0, none⟩)), (10, .int .u8 (c1.toNat : Int))]) zq8 (List.Sublist.refl _) ?_; refine sr ?_; refine sm ?_; refine sf ?_; refine sl ?_; refine sv (PV.lss rfl rfl) ?_; refine sm ?_; refine T.setF (d := 52) rfl (by omega) ?_; refine gf ?_; refine gl ?_; refine gm ?_; refine gv (PV.lss rfl rfl) ?_; refine sF ?_; refine so ?_; refine sd rfl (by omega) ?_; refine T.skip ?_; refine sq ?_; refine zs3 ?_; refine sm ?_; refine sv (PV.leq rfl rfl) ?_; refine so ?_; refine T.condF rfl rfl ?_; refine T.skip ?_; refine zs3 ?_; refine sm ?_; refine sv (PV.indexStr rfl rfl (by omega) (by assumption)) ?_; refine sa ?_; refine so ?_; refine sq ?_; refine zs3 ?_; refine sm ?_; refine sv (PV.lss rfl rfl) ?_; refine sm ?_; refine T.setF (d := 72) rfl (by omega) ?_; refine gm ?_; refine gv (PV.lss rfl rfl) ?_; refine sF ?_; refine so ?_; refine sd rfl (by omega) ?_; refine T.skip ?_
  refine sq ?_; refine zs3 ?_; refine sm ?_; refine sv (PV.leq rfl rfl) ?_; refine so ?_; refine T.condF rfl rfl ?_; refine T.skip ?_
  (repeat refine sq ?_)
  refine T.weak (e' := [(0, .string s), (5, .int .u8 (c0.toNat : Int)), (10, .int .u8 (c1.toNat : Int)), (11, .int .u8 (c2.toNat : Int))]) zq8 (List.Sublist.refl _) ?_; refine sr ?_; refine sm ?_; refine sv (PV.indexStr rfl rfl (by omega) (by assumption)) ?_; refine sa ?_; refine so ?_; refine sq ?_; refine zs3 ?_; refine sm ?_; refine sv (PV.lss rfl rfl) ?_; refine sm ?_; refine T.setF (d := 95) rfl (by omega) ?_; refine gm ?_; refine gv (PV.lss rfl rfl) ?_; refine sF ?_; refine so ?_; refine sd rfl (by omega) ?_; refine T.skip ?_; refine zs3 ?_; refine sm ?_; refine sv (PV.bandR rfl rfl (by assumption)) ?_; refine sv (PV.convB rfl (by omega)) ?_; refine sv (PV.shlR rfl rfl (by assumption) (by omega)) ?_; refine sm ?_; refine sv (PV.bandR rfl rfl (by assumption)) ?_; refine sv (PV.convB rfl (by omega)) ?_; refine sv (PV.shlR rfl rfl (by assumption) (by omega)) ?_; refine sv (PV.borR rfl rfl (by assumption)) ?_; refine sm ?_; refine sv (PV.bandR rfl rfl (by assumption)) ?_; refine sv (PV.convB rfl (by omega)) ?_; refine sv (PV.shlR rfl rfl (by assumption) (by omega)) ?_; refine sv (PV.borR rfl rfl (by assumption)) ?_; refine sm ?_; refine sv (PV.bandR rfl rfl (by assumption)) ?_; refine sv (PV.convB rfl (by omega)) ?_; refine sv (PV.borR rfl rfl (by assumption)) ?_; refine sa ?_; refine sa ?_; refine so ?_
  exact T.retF (Lv.fin (RV.tmp2 rfl rfl rfl) rfl)
theorem slow4_fn (s : ByteArray) (c0 c1 c2 c3 : UInt8) (r x j lo hi : Nat) (H : Hp) (hT : U8T H) (h0 : s.data.toList[0]? = some c0) (h1 : s.data.toList[1]? = some c1) (h2 : s.data.toList[2]? = some c2) (h3 : s.data.toList[3]? = some c3) (e0 : (c0.toNat : Int) = 240 + (r : Int) / 262144) (e1 : (c1.toNat : Int) = 128 + (r : Int) / 4096 % 64) (e2 : (c2.toNat : Int) = 128 + (r : Int) / 64 % 64) (e3 : (c3.toNat : Int) = 128 + (r : Int) % 64) (hr : 65536 ≤ r ∧ r ≤ 1114111)
    (hx : Lib.firstT c0.toNat = x) (hx2 : x < 240) (h7 : bits .and .u8 (x : Int) 7 = 4) (h4 : shrI .u8 (x : Int) 4 = (j : Int)) (hj : j < 16) (hlo : Lib.accLo j = lo) (hhi : Lib.accHi j = hi) (hb : (lo : Int) ≤ c1.toNat ∧ (c1.toNat : Int) ≤ hi) :
    Fn Tryz.prog 118 #[.string s] H (fun u _ => u = .tuple #[.int .i32 (r : Int), .int .i64 4]) := by
  have hl : s.data.toList.length = s.size := Array.length_toList
  have hsz := (List.getElem?_eq_some_iff.1 h3).1
  exact slow4_core s c0 c1 c2 c3 x j lo hi r ((r : Int) / 262144) ((r : Int) / 4096 % 64) ((r : Int) / 64 % 64) ((r : Int) % 64) ((r : Int) / 262144 * 262144) ((r : Int) / 4096 % 64 * 4096) ((r : Int) / 64 % 64 * 64) ((r : Int) / 262144 * 262144 + (r : Int) / 4096 % 64 * 4096) ((r : Int) / 262144 * 262144 + (r : Int) / 4096 % 64 * 4096 + (r : Int) / 64 % 64 * 64) H h0 h1 h2 h3 (by omega)
    (hT.first c0 hx) (hT.accept (i := (j : Int)) rfl hj hlo hhi) (by omega) hb (by omega) (by omega) hx2 h7 h4 hj
    ((u8_and7 _ (by omega) (by omega)).trans (by omega)) ((u8_and63 _ (by omega) (by omega)).trans (by omega)) ((u8_and63 _ (by omega) (by omega)).trans (by omega)) ((u8_and63 _ (by omega) (by omega)).trans (by omega))
    (by omega) (by omega) (by omega) (by omega)
    (shlI_of 262144 rfl rfl (by omega)) (shlI_of 4096 rfl rfl (by omega)) (shlI_of 64 rfl rfl (by omega))
    (i32_or18 _ _ (by omega) (by omega) (by omega) (by omega) (by omega)) (i32_or12 _ _ (by omega) (by omega) (by omega) (by omega) (by omega)) ((i32_or6 _ _ (by omega) (by omega) (by omega) (by omega) (by omega)).trans (by omega))
set_option maxRecDepth 100000 in
set_option maxHeartbeats 4000000 in
theorem decode_fn (s : ByteArray) (r : Nat) (t : List UInt8) (H : Hp) (hT : U8T H) (hr : sc r) (hs : s.data.toList = encB r ++ t) :
    Fn Tryz.prog 71 #[.string s] H (fun u _ => u = .tuple #[.int .i32 (r : Int), .int .i64 ((encB r).length : Int)]) := by
  have hl : s.data.toList.length = s.size := Array.length_toList
  have hlen := encB_len r
  have hne : decide (s ≠ ⟨#[]⟩) = true := decide_eq_true fun h => by
    have h0 : s.size = 0 := by rw [h]; rfl
    rw [← hl, hs, List.length_append] at h0; omega
  obtain ⟨h1, h2⟩ := hr
  have hsl : 128 ≤ r → Fn Tryz.prog 118 #[.string s] H (fun u _ => u = .tuple #[.int .i32 (r : Int), .int .i64 ((encB r).length : Int)]) := fun h3 => by
    by_cases h4 : r < 2048
    · have he : encB r = [UInt8.ofNat (0xC0 + r / 64), UInt8.ofNat (0x80 + r % 64)] := by unfold encB; rw [if_neg (by omega), if_pos h4]
      rw [he] at hs ⊢
      have e0 : (UInt8.ofNat (0xC0 + r / 64)).toNat = 192 + r / 64 := toNat_of (by omega)
      have e1 : (UInt8.ofNat (0x80 + r % 64)).toNat = 128 + r % 64 := toNat_of (by omega)
      exact slow2_fn s _ _ r 2 0 128 191 H hT (by rw [hs]; rfl) (by rw [hs]; rfl) (by omega) (by omega) ⟨h3, h4⟩ (by rw [e0]; unfold Lib.firstT; rw [if_neg (by omega), if_neg (by omega), if_pos (by omega)]) (by omega) (by decide) (by decide) (by omega) rfl rfl ⟨by omega, by omega⟩
    by_cases h5 : r < 65536
    · have he : encB r = [UInt8.ofNat (0xE0 + r / 4096), UInt8.ofNat (0x80 + r / 64 % 64), UInt8.ofNat (0x80 + r % 64)] := by unfold encB; rw [if_neg (by omega), if_neg h4, if_pos h5]
      rw [he] at hs ⊢
      have e0 : (UInt8.ofNat (0xE0 + r / 4096)).toNat = 224 + r / 4096 := toNat_of (by omega)
      have e1 : (UInt8.ofNat (0x80 + r / 64 % 64)).toNat = 128 + r / 64 % 64 := toNat_of (by omega)
      have e2 : (UInt8.ofNat (0x80 + r % 64)).toNat = 128 + r % 64 := toNat_of (by omega)
      have g0 : s.data.toList[0]? = some (UInt8.ofNat (0xE0 + r / 4096)) := by rw [hs]; rfl
      have g1 : s.data.toList[1]? = some (UInt8.ofNat (0x80 + r / 64 % 64)) := by rw [hs]; rfl
      have g2 : s.data.toList[2]? = some (UInt8.ofNat (0x80 + r % 64)) := by rw [hs]; rfl
      by_cases h6 : r / 4096 = 0
      · exact slow3_fn s _ _ _ r 19 1 160 191 H hT g0 g1 g2 (by omega) (by omega) (by omega) ⟨by omega, h5⟩ (by rw [e0, h6]; rfl) (by omega) (by decide) (by decide) (by omega) rfl rfl ⟨by omega, by omega⟩
      by_cases h7 : r / 4096 = 13
      · exact slow3_fn s _ _ _ r 35 2 128 159 H hT g0 g1 g2 (by omega) (by omega) (by omega) ⟨by omega, h5⟩ (by rw [e0, h7]; rfl) (by omega) (by decide) (by decide) (by omega) rfl rfl ⟨by omega, by omega⟩
      · have hft : Lib.firstT (224 + r / 4096) = 3 := by
          unfold Lib.firstT
          repeat' split
          all_goals omega
        exact slow3_fn s _ _ _ r 3 0 128 191 H hT g0 g1 g2 (by omega) (by omega) (by omega) ⟨by omega, h5⟩ (by rw [e0]; exact hft) (by omega) (by decide) (by decide) (by omega) rfl rfl ⟨by omega, by omega⟩
    · have he : encB r = [UInt8.ofNat (0xF0 + r / 262144), UInt8.ofNat (0x80 + r / 4096 % 64), UInt8.ofNat (0x80 + r / 64 % 64), UInt8.ofNat (0x80 + r % 64)] := by unfold encB; rw [if_neg (by omega), if_neg h4, if_neg h5]
      rw [he] at hs ⊢
      have e0 : (UInt8.ofNat (0xF0 + r / 262144)).toNat = 240 + r / 262144 := toNat_of (by omega)
      have e1 : (UInt8.ofNat (0x80 + r / 4096 % 64)).toNat = 128 + r / 4096 % 64 := toNat_of (by omega)
      have e2 : (UInt8.ofNat (0x80 + r / 64 % 64)).toNat = 128 + r / 64 % 64 := toNat_of (by omega)
      have e3 : (UInt8.ofNat (0x80 + r % 64)).toNat = 128 + r % 64 := toNat_of (by omega)
      have g0 : s.data.toList[0]? = some (UInt8.ofNat (0xF0 + r / 262144)) := by rw [hs]; rfl
      have g1 : s.data.toList[1]? = some (UInt8.ofNat (0x80 + r / 4096 % 64)) := by rw [hs]; rfl
      have g2 : s.data.toList[2]? = some (UInt8.ofNat (0x80 + r / 64 % 64)) := by rw [hs]; rfl
      have g3 : s.data.toList[3]? = some (UInt8.ofNat (0x80 + r % 64)) := by rw [hs]; rfl
      by_cases h6 : r / 262144 = 0
      · exact slow4_fn s _ _ _ _ r 52 3 144 191 H hT g0 g1 g2 g3 (by omega) (by omega) (by omega) (by omega) ⟨by omega, h1⟩ (by rw [e0, h6]; rfl) (by omega) (by decide) (by decide) (by omega) rfl rfl ⟨by omega, by omega⟩
      by_cases h7 : r / 262144 = 4
      · exact slow4_fn s _ _ _ _ r 68 4 128 143 H hT g0 g1 g2 g3 (by omega) (by omega) (by omega) (by omega) ⟨by omega, h1⟩ (by rw [e0, h7]; rfl) (by omega) (by decide) (by decide) (by omega) rfl rfl ⟨by omega, by omega⟩
      · have hft : Lib.firstT (240 + r / 262144) = 4 := by
          unfold Lib.firstT
          repeat' split
          all_goals omega
        exact slow4_fn s _ _ _ _ r 4 0 128 191 H hT g0 g1 g2 g3 (by omega) (by omega) (by omega) (by omega) ⟨by omega, h1⟩ (by rw [e0]; exact hft) (by omega) (by decide) (by decide) (by omega) rfl rfl ⟨by omega, by omega⟩
  by_cases h3 : r < 128
  · have he : encB r = [UInt8.ofNat r] := by unfold encB; rw [if_pos h3]
    rw [he] at hs ⊢
    have e0 : (UInt8.ofNat r).toNat = r := toNat_of (by omega)
    have g0 : s.data.toList[(0 : Int).toNat]? = some (UInt8.ofNat r) := by rw [hs]; rfl
    have e0' : ((UInt8.ofNat r).toNat : Int) = (r : Int) := by omega
    have hsz : 0 < s.size := by rw [← hl, hs]; simp
    refine Fn.of_T (vs := [.string s]) Tryz.func71 rfl rfl fun w => ?_; refine zs3 ?_; refine sa ?_; refine sa ?_; refine so ?_; refine sq ?_; refine zs3 ?_; refine sm ?_; refine sv (PV.sneq rfl rfl) ?_; refine sm ?_; refine T.pv (PV.move rfl) (Wanted.guard rfl rfl (by assumption)) rfl rfl ?_; refine T.pv (PV.indexStr rfl rfl (by omega) (by assumption)) (Wanted.guard rfl rfl (by assumption)) rfl rfl ?_; refine T.pv (PV.lss rfl rfl) (Wanted.guard rfl rfl (by assumption)) rfl rfl ?_; refine sv (PV.pickT rfl (by assumption) rfl) ?_; refine so ?_; refine sC rfl (by omega) ?_; refine zs3 ?_; refine sm ?_; refine sv (PV.indexStr rfl rfl (by omega) (by assumption)) ?_; refine sv (PV.convB rfl (by omega)) ?_; refine sa ?_; refine sa ?_; refine so ?_
    exact T.retF (Lv.fin (RV.tmp2 rfl rfl rfl) (by rw [e0']; rfl))
  · have hsl := hsl (by omega)
    obtain ⟨c0, g0, e0⟩ : ∃ c0, s.data.toList[(0 : Int).toNat]? = some c0 ∧ 128 ≤ (c0.toNat : Int) := by
      rw [hs]
      unfold encB
      rw [if_neg h3]
      split
      · exact ⟨_, rfl, by rw [toNat_of (by omega)]; omega⟩
      · split
        · exact ⟨_, rfl, by rw [toNat_of (by omega)]; omega⟩
        · exact ⟨_, rfl, by rw [toNat_of (by omega)]; omega⟩
    have hsz : 0 < s.size := by rw [← hl, hs, List.length_append]; omega
    refine Fn.of_T (vs := [.string s]) Tryz.func71 rfl rfl fun w => ?_; refine zs3 ?_; refine sa ?_; refine sa ?_; refine so ?_; refine sq ?_; refine zs3 ?_; refine sm ?_; refine sv (PV.sneq rfl rfl) ?_; refine sm ?_; refine T.pv (PV.move rfl) (Wanted.guard rfl rfl (by assumption)) rfl rfl ?_; refine T.pv (PV.indexStr rfl rfl (by omega) (by assumption)) (Wanted.guard rfl rfl (by assumption)) rfl rfl ?_; refine T.pv (PV.lss rfl rfl) (Wanted.guard rfl rfl (by assumption)) rfl rfl ?_; refine sv (PV.pickT rfl (by assumption) rfl) ?_; refine so ?_; refine sd rfl (by omega) ?_; refine sr ?_; refine sm ?_; refine T.callV Wanted.none rfl rfl (hsl) ?_; refine sm ?_; refine sv (PV.extract rfl rfl) ?_; refine sv (PV.extract rfl rfl) ?_; refine sa ?_; refine sa ?_; refine so ?_
    exact T.retF (Lv.fin (RV.tmp2 rfl rfl rfl) rfl)
end Go.Proofs.YtpjdhokpfccahaaGreatDoor
namespace Go.Proofs.YtpjdhokpfccahaaGreatDoor
open Go.RowKit

def atL (l : List U) (i : Int) : Value := match (if i < 0 then none else l[i.toNat]?) with
  | some u => .tuple #[.int .i32 (u.r : Int), .int .i64 (u.at_ : Int), .int .i64 (u.sz : Int), .bool true]
  | none => .tuple #[.int .i32 0, .int .i64 0, .int .i64 0, .bool false]

set_option maxHeartbeats 1000000 in
theorem at_fn (s : ByteArray) (i : Int) (H : Hp) (hs : s.size ≤ 20000) (hi : -9223372036854775808 ≤ i ∧ i ≤ 9223372036854775807) : Fn Tryz.prog 15 #[.string s, .int .i64 i] H (fun v _ => v = atL (units s) i) := by
  refine Fn.of_T (vs := [.string s, .int .i64 i]) Tryz.func15 rfl rfl fun w => ?_; refine zs3 ?_; (refine T.box Wanted.none rfl rfl zq15 ?_; intro b3); refine sy fun b4 => ?_; refine sy fun b5 => ?_; refine sy fun b6 => ?_; refine sy fun b7 => ?_; refine so ?_; refine sq ?_; refine zs3 ?_; refine sm ?_; refine T.call Wanted.none rfl rfl (units_fn s H) ?_
  rintro _ H1 hH1 ⟨bs, rfl, hb⟩
  refine so ?_; refine T.block ?_
  have hul := units_len s
  refine T.rangeFunc rfl rfl (units_iter s bs H1 _ (by omega) hb) (fun _ => rfl) rfl (by decide)
    (fun n lk _ => ∃ z : Int, (z = i - n ∨ z = i - n + 18446744073709551616) ∧ (0 ≤ i → n ≤ i) ∧ -9223372036854775808 ≤ z ∧ z ≤ 9223372036854775807 ∧
      lk = [(b7, .cells #[.bool false] 4 (0, 0)), (b6, .cells #[.int .i64 0] 3 (0, 0)), (b5, .cells #[.int .i64 0] 3 (0, 0)), (b4, .cells #[.int .i32 0] 21 (0, 0)), (b3, .cells #[.int .i64 z] 3 (0, 0))])
    (fun c lk _ => c = .ret ∧ ∃ u : U, ∃ z : Int, 0 ≤ i ∧ (units s)[i.toNat]? = some u ∧
      lk = [(b7, .cells #[.bool true] 4 (0, 0)), (b6, .cells #[.int .i64 u.sz] 3 (0, 0)), (b5, .cells #[.int .i64 u.at_] 3 (0, 0)), (b4, .cells #[.int .i32 u.r] 21 (0, 0)), (b3, .cells #[.int .i64 z] 3 (0, 0))])
    ⟨i, by omega, by omega, by omega, by omega, rfl⟩ ?_ ?_ ?_
  · rintro n x lk Hk hx ⟨z, hz, hzn, hz1, hz2, rfl⟩ hle L rec lo hrec
    have hn := (List.getElem?_eq_some_iff.1 hx).1
    obtain ⟨m1, m2, m3, m4, m5⟩ := units_mem (List.mem_of_getElem? hx)
    refine sr ?_; refine sy fun b8 => ?_; refine T.storeA Wanted.none rfl rfl zq8 (by exact rfl) zq14 zq13 ?_; refine so ?_; refine T.begin (lk := [_, _, _, _, _, _]) hrec ?_; refine T.block ?_; refine sq ?_; refine zs3 ?_; refine sl ?_; refine sv (PV.eql rfl rfl) ?_; refine so ?_
    refine T.condD rfl (fun hc => ?_) (fun hc => ?_)
    · refine sq ?_; refine T.regionA [(b8, .cells #[.int .i32 (x.r : Int), .int .i64 (x.at_ : Int), .int .i64 (x.sz : Int)] 68 (0, 0))] (by kernel_rfl) zq4 ?_; refine TA.pv (PV.fieldAddr rfl) Wanted.none rfl rfl ?_; refine TA.pv (PV.load1 rfl zq0 rfl) Wanted.none rfl rfl ?_; refine TA.pv (PV.fieldAddr rfl) Wanted.none rfl rfl ?_; refine TA.pv (PV.load1 rfl zq0 rfl) Wanted.none rfl rfl ?_; refine TA.pv (PV.fieldAddr rfl) Wanted.none rfl rfl ?_; refine TA.pv (PV.load1 rfl zq0 rfl) Wanted.none rfl rfl ?_; refine TA.ps (PS.store1 rfl rfl rfl zq14 zq13) Wanted.none rfl zq4 ?_; refine TA.ps (PS.store1 rfl rfl rfl zq14 zq13) Wanted.none rfl zq4 ?_; refine TA.ps (PS.store1 rfl rfl rfl zq14 zq13) Wanted.none rfl zq4 ?_; refine TA.ps (PS.store1 rfl rfl rfl zq14 zq13) Wanted.none rfl zq4 ?_; refine TA.nil ?_
      refine T.roundRet [_, _, _, _, _] zq4 (Hp.le.refl _) ⟨rfl, x, z, by omega, ?_, rfl⟩
      rw [← hx]; congr 1; omega
    · refine T.skip ?_; refine sr ?_; refine sl ?_; refine sv (PV.subK rfl rfl) ?_
      obtain ⟨z', hz', hzz⟩ : ∃ z', IntKind.i64.wrap (z - 1) = z' ∧ ((z' = z - 1 ∧ -9223372036854775808 < z) ∨ (z = -9223372036854775808 ∧ z' = 9223372036854775807)) := by
        by_cases h : z = -9223372036854775808
        · subst h; exact ⟨_, rfl, .inr ⟨rfl, by decide⟩⟩
        · exact ⟨_, rfl, .inl ⟨wrap64_id (by omega), by omega⟩⟩
      rw [hz']
      refine T.store1 Wanted.none rfl rfl rfl zq14 zq13 ?_; refine so ?_; refine T.blkEnd ?_
      refine T.roundEnd [_, _, _, _, _] zq4 (Hp.le.refl _) ⟨z', by omega, by omega, by omega, by omega, rfl⟩
  · rintro r lk Hk hle ⟨z, hz, hzn, hz1, hz2, rfl⟩
    refine T.blkEnd ?_; refine zs3 ?_; refine T.store1 Wanted.none rfl rfl rfl zq14 zq13 ?_; refine T.store1 Wanted.none rfl rfl rfl zq14 zq13 ?_; refine T.store1 Wanted.none rfl rfl rfl zq14 zq13 ?_; refine T.store1 Wanted.none rfl rfl rfl zq14 zq13 ?_; refine so ?_
    refine T.retF (Lv.mark Upd.head (Lv.fin zq6 ?_))
    unfold atL
    by_cases h : i < 0
    · rw [if_pos h]
    · rw [if_neg h, List.getElem?_eq_none (by omega)]
  · rintro c r lk Hk hle ⟨rfl, u, z, h0, hu, rfl⟩
    refine T.retF (Lv.mark Upd.head (Lv.fin zq6 ?_))
    unfold atL
    rw [if_neg (by omega), hu]
end Go.Proofs.YtpjdhokpfccahaaGreatDoor
