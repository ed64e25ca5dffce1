/- whether a character is one of the special ones: strings.ContainsRune.
   expressions that stand for a text, read: the next code point, a character, an atom. -/
import Derived.Test.YtpjdhokpfccahaaGreatDoorGQ
import Derived.Test.YtpjdhokpfccahaaGreatDoorGG
namespace Go.Proofs.YtpjdhokpfccahaaGreatDoor
open Go.RowKit

abbrev spB : ByteArray := ⟨#[92, 46, 91, 93, 40, 41, 123, 125, 124, 42, 43, 63]⟩
theorem spc_dec : ∀ r : Nat, r < 128 → decide (0 ≤ Lib.indexByte spB.data.toList (UInt8.ofNat r)) = spc r := by decide +kernel
theorem sp_ascii : ∀ p : Nat, p < 12 → ∃ n, Utf8.decode spB p = (n, 1) ∧ n < 128 := fun p hp => by
  have h : ∀ p : Nat, p < 12 → (Utf8.decode spB p).2 = 1 ∧ (Utf8.decode spB p).1 < 128 := by decide +kernel
  obtain ⟨h1, h2⟩ := h p hp
  exact ⟨(Utf8.decode spB p).1, by rw [← h1], h2⟩
theorem sp_byte : ∀ p : Nat, p < 12 → ∃ c, spB.data.toList[p]? = some c ∧ (c.toNat : Int) < 128 := fun p hp => by
  have h : ∀ p : Fin 12, (spB.data.toList[p.val]?).isSome = true ∧ ((spB.data.toList[p.val]?).getD 0).toNat < 128 := by decide +kernel
  obtain ⟨h1, h2⟩ := h ⟨p, hp⟩
  obtain ⟨c, hc⟩ := Option.isSome_iff_exists.1 h1
  simp only [] at hc
  refine ⟨c, hc, ?_⟩
  simp only [hc, Option.getD_some] at h2
  omega
theorem sp_ext : ∀ k : Nat, k < 5 → ∀ b ∈ (spB.extract k spB.size).data.toList, (b.toNat : Int) < 128 := fun k hk b hb => by
  have h : ∀ k : Fin 5, ∀ b ∈ (spB.extract k.val spB.size).data.toList, b.toNat < 128 := by decide +kernel
  have := h ⟨k, hk⟩ b hb
  omega
theorem spc_big {r : Nat} (h : 128 ≤ r) : spc r = false := by
  rw [Bool.eq_false_iff]
  intro hs
  have := spc_mem.1 hs
  omega
theorem strIndexByte_fn (s : ByteArray) (c : UInt8) (H : Hp) : Fn Tryz.prog 183 #[.string s, .int .u8 (c.toNat : Int)] H (fun u _ => u = .int .i64 (Lib.indexByte s.data.toList c)) := by
  have hi := indexByte_fn s c H
  refine Fn.of_T (vs := [.string s, .int .u8 (c.toNat : Int)]) Tryz.func183 rfl rfl fun w => ?_; refine zs3 ?_; refine sa ?_; refine zs1 ?_; refine sm ?_; refine sm ?_; refine T.callV Wanted.none rfl rfl (hi) ?_; refine sa ?_; refine so ?_
  exact T.retF (Lv.fin (RV.tmp rfl rfl) rfl)
theorem validRune_fn (r : Nat) (H : Hp) (hr : sc r) : Fn Tryz.prog 184 #[.int .i32 (r : Int)] H (fun u _ => u = .bool true) := by
  obtain ⟨h1, h2⟩ := hr
  refine Fn.of_T (vs := [.int .i32 (r : Int)]) Tryz.func184 rfl rfl fun w => ?_
  by_cases h3 : r < 55296
  · refine zs3 ?_; refine sa ?_; refine so ?_; refine sq ?_; refine T.block ?_; refine zs3 ?_; refine sm ?_; refine sv (PV.leq rfl rfl) ?_; refine sm ?_; refine gm ?_; refine gv (PV.lss rfl rfl) ?_; refine sT ?_; refine sa ?_; refine so ?_; refine sC rfl (by omega) ?_; refine zs3 ?_; refine sa ?_; refine so ?_
    exact T.retF (Lv.fin (RV.tmp rfl rfl) rfl)
  · refine zs3 ?_; refine sa ?_; refine so ?_; refine sq ?_; refine T.block ?_; refine zs3 ?_; refine sm ?_; refine sv (PV.leq rfl rfl) ?_; refine sm ?_; refine gm ?_; refine gv (PV.lss rfl rfl) ?_; refine sT ?_; refine sa ?_; refine so ?_; refine sd rfl (by omega) ?_; refine zs3 ?_; refine sm ?_; refine sv (PV.lss rfl rfl) ?_; refine sm ?_; refine T.setT (d := 13) rfl (by omega) ?_; refine gm ?_; refine gv (PV.leq rfl rfl) ?_; refine sT ?_; refine sa ?_; refine so ?_; refine sC rfl (by omega) ?_; refine zs3 ?_; refine sa ?_; refine so ?_
    exact T.retF (Lv.fin (RV.tmp rfl rfl) rfl)
set_option maxRecDepth 100000 in
set_option maxHeartbeats 2000000 in
theorem ir_small (r : Nat) (H : Hp) (h1 : r < 128) : Fn Tryz.prog 169 #[.string spB, .int .i32 (r : Int)] H (fun u _ => ∃ n : Int, u = .int .i64 n ∧ decide (0 ≤ n) = spc r) := by
  have hsz : spB.size = 12 := rfl
  have e0 : ((UInt8.ofNat r).toNat : Int) = (r : Int) := by rw [toNat_of (by omega)]
  have hi := strIndexByte_fn spB (UInt8.ofNat r) H
  rw [e0] at hi
  refine Fn.of_T (vs := [.string spB, .int .i32 (r : Int)]) Tryz.func169 rfl rfl fun w => ?_; refine zs3 ?_; refine sa ?_; refine so ?_; refine T.block ?_; refine zs3 ?_; refine sm ?_; refine sv (PV.leq rfl rfl) ?_; refine sm ?_; refine gm ?_; refine gv (PV.lss rfl rfl) ?_; refine sT ?_; refine sa ?_; refine so ?_; refine sC rfl (by omega) ?_; refine zs3 ?_; refine sm ?_; refine sm ?_; refine sv (PV.convB rfl (by omega)) ?_; refine T.callV Wanted.none rfl rfl (hi) ?_; refine sa ?_; refine so ?_
  exact T.retF (Lv.fin (RV.tmp rfl rfl) ⟨_, rfl, spc_dec r h1⟩)
set_option maxRecDepth 100000 in
set_option maxHeartbeats 2000000 in
theorem ir_mid (r : Nat) (H : Hp) (h1 : ¬ r < 128) (h2 : r = 65533) : Fn Tryz.prog 169 #[.string spB, .int .i32 (r : Int)] H (fun u _ => ∃ n : Int, u = .int .i64 n ∧ decide (0 ≤ n) = spc r) := by
  have hsz : spB.size = 12 := rfl
  have hsp := spc_big (r := r) (by omega)
  refine Fn.of_T (vs := [.string spB, .int .i32 (r : Int)]) Tryz.func169 rfl rfl fun w => ?_; refine zs3 ?_; refine sa ?_; refine so ?_; refine T.block ?_; refine zs3 ?_; refine sm ?_; refine sv (PV.leq rfl rfl) ?_; refine sm ?_; refine gm ?_; refine gv (PV.lss rfl rfl) ?_; refine sT ?_; refine sa ?_; refine so ?_; refine sd rfl (by omega) ?_; refine zs3 ?_; refine sm ?_; refine sv (PV.eql rfl rfl) ?_; refine sa ?_; refine so ?_; refine sC rfl (by omega) ?_; refine sq ?_; refine zs3 ?_; refine sm ?_; (refine T.rangeStr Wanted.none rfl rfl ?_; intro b175); refine so ?_; refine T.block ?_; refine T.loopK [(175, Value.pointer (some { block := b175, off := 0 }))] zq8 (γ := Nat) (fun p => p ≤ 12) (fun _ => []) (fun p => (b175, .stringIter spB p) :: _) (fun _ => H) (fun p => 12 - p) 0 (Nat.zero_le _) zq8 (Sel.refl _) rfl ?_
  intro p hp
  by_cases hp2 : p < 12
  · obtain ⟨n, hd, hn⟩ := sp_ascii p hp2
    have hp3 : p < spB.size := by omega
    refine zs3 ?_; refine T.nextStr zq22 rfl rfl (by assumption) (by assumption) zq14 ?_; refine sv (PV.extract rfl rfl) ?_; refine so ?_; refine sq ?_; refine T.condT rfl rfl ?_; refine T.skip ?_; refine T.block ?_; refine zs3 ?_; refine sv (PV.extract rfl rfl) ?_; refine sv (PV.extract rfl rfl) ?_; refine sa ?_; refine sa ?_; refine zs1 ?_; refine sm ?_; refine sv (PV.eql rfl rfl) ?_; refine so ?_; refine sd rfl (by omega) ?_; refine T.skip ?_; refine T.blkEnd ?_
    exact T.nextP (p + 1) (by omega) (by omega) zq8 (by repeat (first | exact Sel.refl _ | exact Sel.nil | (refine Sel.cons zq1 ?_) | (refine Sel.app zq1 ?_) | exact Sel.one zq1)) rfl
  · refine zs3 ?_; refine T.nextStrEnd zq22 rfl rfl zq2 (by omega) ?_; refine sv (PV.extract rfl rfl) ?_; refine so ?_; refine sq ?_; refine T.condF rfl rfl ?_; refine T.exit rfl ?_; refine zs3 ?_; refine sa ?_; refine so ?_
    exact T.retF (Lv.fin (RV.tmp rfl rfl) ⟨_, rfl, by rw [hsp]; rfl⟩)
set_option maxRecDepth 100000 in
set_option maxHeartbeats 2000000 in
theorem ir_big (r : Nat) (H : Hp) (hr : sc r) (h1 : ¬ r < 128) (h2 : r ≠ 65533) : Fn Tryz.prog 169 #[.string spB, .int .i32 (r : Int)] H (fun u _ => ∃ n : Int, u = .int .i64 n ∧ decide (0 ≤ n) = spc r) := by
  have hsz : spB.size = 12 := rfl
  have hsp := spc_big (r := r) (by omega)
  have hvr := validRune_fn r H hr
  have hen := encode_B hr
  have hlen := encB_len r
  obtain ⟨E, hE⟩ : ∃ E, Utf8.encode (r : Int) = E := ⟨_, rfl⟩
  rw [hE] at hen
  have hl := size_list E
  obtain ⟨n, hn⟩ : ∃ n : Nat, E.size = n + 1 := ⟨(encB r).length - 1, by rw [← hl, hen]; omega⟩
  have hn4 : n ≤ 3 := by rw [← hl, hen] at hn; omega
  obtain ⟨c, hc, hcb⟩ : ∃ c, E.data.toList[((E.size : Int) - 1).toNat]? = some c ∧ 128 ≤ (c.toNat : Int) := by
    rw [show ((E.size : Int) - 1).toNat = n by omega]
    rw [← hl, hen] at hn
    rw [hen]
    unfold encB at hn ⊢
    rw [if_neg h1] at hn ⊢
    split
    · rename_i h3
      rw [if_pos h3] at hn
      obtain rfl : n = 1 := by simp at hn; omega
      exact ⟨_, rfl, by rw [toNat_of (by omega)]; omega⟩
    · rename_i h3
      rw [if_neg h3] at hn
      split
      · rename_i h4
        rw [if_pos h4] at hn
        obtain rfl : n = 2 := by simp at hn; omega
        exact ⟨_, rfl, by rw [toNat_of (by omega)]; omega⟩
      · rename_i h4
        rw [if_neg h4] at hn
        obtain rfl : n = 3 := by simp at hn; omega
        exact ⟨_, rfl, by rw [toNat_of (by omega)]; omega⟩
  obtain ⟨d, hd, hdb⟩ := sp_byte n (by omega)
  have hd' : spB.data.toList[((E.size : Int) - 1).toNat]? = some d := by rw [show ((E.size : Int) - 1).toNat = n by omega]; exact hd
  refine Fn.of_T (vs := [.string spB, .int .i32 (r : Int)]) Tryz.func169 rfl rfl fun w => ?_; refine zs3 ?_; refine sa ?_; refine so ?_; refine T.block ?_; refine zs3 ?_; refine sm ?_; refine sv (PV.leq rfl rfl) ?_; refine sm ?_; refine gm ?_; refine gv (PV.lss rfl rfl) ?_; refine sT ?_; refine sa ?_; refine so ?_; refine sd rfl (by omega) ?_; refine zs3 ?_; refine sm ?_; refine sv (PV.eql rfl rfl) ?_; refine sa ?_; refine so ?_; refine sd rfl (by omega) ?_; refine zs3 ?_; refine sm ?_; refine T.callV Wanted.none rfl rfl (hvr) ?_; refine sv (PV.not rfl) ?_; refine sa ?_; refine so ?_; refine T.condF rfl rfl ?_; refine T.scope (fun _ _ _ h => h) ?_; refine zs3 ?_; refine sm ?_; refine sv (PV.convRune rfl) ?_; refine sa ?_; refine so ?_
  rw [hE]
  have hix := strIndexByte_fn (spB.extract ((E.size : Int) - 1 + 1).toNat spB.size) c H
  rw [indexByte_none fun hm => by
    rw [show ((E.size : Int) - 1 + 1).toNat = n + 1 by omega] at hm
    have := sp_ext (n + 1) (by omega) c hm
    omega] at hix
  refine zs3 ?_; refine sm ?_; refine sv (PV.lenStr rfl) ?_; refine sv (PV.sub rfl rfl (by omega)) ?_; refine sa ?_; refine zs1 ?_; refine sm ?_; refine sa ?_; refine zs1 ?_; refine sa ?_; refine so ?_; refine sq ?_; refine T.block ?_; refine T.rounds 0 ?_; refine sq ?_; refine zs3 ?_; refine sm ?_; refine sm ?_; refine sv (PV.lenStr rfl) ?_; refine sv (PV.lss rfl rfl) ?_; refine so ?_; refine sC rfl (by omega) ?_; refine T.skip ?_; refine T.block ?_; refine T.scope (fun _ _ _ h => h) ?_; refine sq ?_; refine sq ?_; refine T.regionQ (by kernel_rfl) ?_; refine TQ.pv (PV.move rfl) Wanted.none rfl rfl ?_; refine TQ.pv (PV.move rfl) Wanted.none rfl rfl ?_; refine TQ.pv (PV.indexStr rfl rfl (by omega) (by assumption)) Wanted.none rfl rfl ?_; refine TQ.pv (PV.move rfl) Wanted.none rfl rfl ?_; refine TQ.pv (PV.move rfl) Wanted.none rfl rfl ?_; refine TQ.pv (PV.indexStr rfl rfl (by omega) (by assumption)) Wanted.none rfl rfl ?_; refine TQ.pv (PV.neq rfl rfl) Wanted.none rfl rfl ?_; refine TQ.nil ?_; refine sC rfl (by omega) ?_; refine sq ?_; refine T.regionQ (by kernel_rfl) ?_; refine TQ.pv (PV.move rfl) Wanted.none rfl rfl ?_
  refine TQ.pv (PV.move rfl) Wanted.none rfl rfl ?_; refine TQ.pv (PV.add rfl rfl (by omega)) Wanted.none rfl rfl ?_; refine TQ.pv (PV.sliceStrL rfl rfl (by omega)) Wanted.none rfl rfl ?_; refine TQ.pv (PV.move rfl) Wanted.none rfl rfl ?_; refine TQ.pv (PV.move rfl) Wanted.none rfl rfl ?_; refine TQ.pv (PV.indexStr rfl rfl (by omega) (by assumption)) Wanted.none rfl rfl ?_; refine TQ.callV Wanted.none rfl rfl (hix) ?_; refine TQ.pv (PV.assign rfl) Wanted.none rfl rfl ?_; refine TQ.nil ?_; refine sq ?_; refine zs3 ?_; refine sm ?_; refine sv (PV.lss rfl rfl) ?_; refine so ?_; refine T.condT rfl rfl ?_; refine zs3 ?_; refine sa ?_; refine so ?_
  exact T.retF (Lv.fin (RV.tmp rfl rfl) ⟨_, rfl, by rw [hsp]; rfl⟩)
theorem indexRune_fn (r : Nat) (H : Hp) (hr : sc r) : Fn Tryz.prog 169 #[.string spB, .int .i32 (r : Int)] H (fun u _ => ∃ n : Int, u = .int .i64 n ∧ decide (0 ≤ n) = spc r) := by
  by_cases h1 : r < 128
  · exact ir_small r H h1
  by_cases h2 : r = 65533
  · exact ir_mid r H h1 h2
  · exact ir_big r H hr h1 h2
theorem containsRune_fn (r : Nat) (H : Hp) (hr : sc r) : Fn Tryz.prog 148 #[.string spB, .int .i32 (r : Int)] H (fun u _ => u = .bool (spc r)) := by
  have hi := indexRune_fn r H hr
  refine Fn.of_T (vs := [.string spB, .int .i32 (r : Int)]) Tryz.func148 rfl rfl fun w => ?_; refine zs3 ?_; refine sa ?_; refine zs1 ?_; refine sm ?_; refine sm ?_; refine T.callX Wanted.none rfl rfl hi ?_
  rintro _ ⟨n, rfl, hn⟩
  refine sv (PV.geq rfl rfl) ?_; refine sa ?_; refine so ?_
  exact T.retF (Lv.fin (RV.tmp rfl rfl) (by rw [hn]))
end Go.Proofs.YtpjdhokpfccahaaGreatDoor
namespace Go.Proofs.YtpjdhokpfccahaaGreatDoor
open Go.RowKit

/-- the reader at a place -/
abbrev psB (b : Nat) (s : ByteArray) (i : Nat) : Nat × Obj := (b, .cells #[.string s, .int .i64 (i : Int), .int .i64 0, .int .i64 0] 59 (0, 0))
def ofs (pre : List Nat) : Nat := (encL pre).length
theorem ofs_app (a b : List Nat) : ofs (a ++ b) = ofs a + ofs b := by unfold ofs encL; rw [List.flatMap_append, List.length_append]
theorem ofs_one (r : Nat) : ofs [r] = (encB r).length := by unfold ofs encL; simp
theorem ofs_nil : ofs [] = 0 := rfl
/-- a text of two parts -/
structure At (s : ByteArray) (pre rest : List Nat) : Prop where
  l : s.data.toList = encL pre ++ encL rest
  sc : ∀ r ∈ rest, sc r
  sz : s.size ≤ 20000
theorem At.size {s : ByteArray} {pre rest : List Nat} (h : At s pre rest) : s.size = ofs pre + ofs rest := by
  rw [← size_list, h.l, List.length_append]; rfl
theorem At.step {s : ByteArray} {pre rest : List Nat} {r : Nat} (h : At s pre (r :: rest)) : At s (pre ++ [r]) rest := by
  refine ⟨?_, fun x hx => h.sc x (List.mem_cons_of_mem _ hx), h.sz⟩
  rw [h.l]
  unfold encL
  rw [List.flatMap_append, List.flatMap_cons, List.append_assoc]
  simp
def hdI : List Nat → Int
  | [] => -1
  | r :: _ => (r : Int)
theorem drop_list (s : ByteArray) (k : Nat) : (s.extract k s.size).data.toList = s.data.toList.drop k := by
  have : (s.extract k s.size).data = s.data.extract k s.size := by simp
  rw [this]
  have hs : s.data.size = s.size := rfl
  rw [← hs]
  simp [List.take_of_length_le]
theorem At.decode {s : ByteArray} {pre rest : List Nat} {r : Nat} (h : At s pre (r :: rest)) (H : Hp) (hT : U8T H) : Fn Tryz.prog 71 #[.string (s.extract ((ofs pre : Nat) : Int).toNat s.size)] H (fun u _ => u = .tuple #[.int .i32 (r : Int), .int .i64 ((encB r).length : Int)]) := by
  refine decode_fn _ r (encL rest) H hT (h.sc r List.mem_cons_self) ?_
  rw [Int.toNat_natCast, drop_list, h.l]
  unfold ofs
  rw [List.drop_left]
  unfold encL
  rw [List.flatMap_cons]
theorem next_fnS (b : Nat) (s : ByteArray) (pre rest : List Nat) (H : Hp) (hT : U8T H) (h : At s pre rest) :
    FnS Tryz.prog 32 #[.pointer (some ⟨b, 0, none⟩)] H [psB b s (ofs pre)] (.int .i32 (hdI rest)) [psB b s (ofs pre)] := by
  have hsz := h.size
  have hle := h.sz
  cases rest with
  | nil =>
    rw [ofs_nil] at hsz
    refine FnW.of_T (vs := [.pointer (some ⟨b, 0, none⟩)]) Tryz.func32 rfl rfl fun w => ?_; refine zs3 ?_; refine sa ?_; refine so ?_; refine sq ?_; refine sq ?_; refine T.regionQ (by kernel_rfl) ?_; refine TQ.pv (PV.move rfl) Wanted.none rfl rfl ?_; refine TQ.pv (PV.nilCheck rfl) Wanted.none rfl rfl ?_; refine TQ.pv (PV.fieldAddr rfl) Wanted.none rfl rfl ?_; refine TQ.pv (PV.load1 rfl zq0 rfl) Wanted.none rfl rfl ?_; refine TQ.pv (PV.move rfl) Wanted.none rfl rfl ?_; refine TQ.pv (PV.nilCheck rfl) Wanted.none rfl rfl ?_; refine TQ.pv (PV.fieldAddr rfl) Wanted.none rfl rfl ?_; refine TQ.pv (PV.load1 rfl zq0 rfl) Wanted.none rfl rfl ?_; refine TQ.pv (PV.lenStr rfl) Wanted.none rfl rfl ?_; refine TQ.pv (PV.eql rfl rfl) Wanted.none rfl rfl ?_; refine TQ.nil ?_; refine sC rfl (by omega) ?_; refine zs3 ?_; refine sa ?_; refine so ?_
    exact T.retW (Lv.finW _ (List.Sublist.refl _) (RV.tmp rfl rfl) ⟨rfl, rfl, rfl⟩)
  | cons r rest =>
    have hd := h.decode H hT
    have he := encB_len r
    have hsz2 : ofs (r :: rest) = (encB r).length + ofs rest := by rw [show r :: rest = [r] ++ rest from rfl, ofs_app, ofs_one]
    refine FnW.of_T (vs := [.pointer (some ⟨b, 0, none⟩)]) Tryz.func32 rfl rfl fun w => ?_; refine zs3 ?_; refine sa ?_; refine so ?_; refine sq ?_; refine sq ?_; refine T.regionQ (by kernel_rfl) ?_; refine TQ.pv (PV.move rfl) Wanted.none rfl rfl ?_; refine TQ.pv (PV.nilCheck rfl) Wanted.none rfl rfl ?_; refine TQ.pv (PV.fieldAddr rfl) Wanted.none rfl rfl ?_; refine TQ.pv (PV.load1 rfl zq0 rfl) Wanted.none rfl rfl ?_; refine TQ.pv (PV.move rfl) Wanted.none rfl rfl ?_; refine TQ.pv (PV.nilCheck rfl) Wanted.none rfl rfl ?_; refine TQ.pv (PV.fieldAddr rfl) Wanted.none rfl rfl ?_; refine TQ.pv (PV.load1 rfl zq0 rfl) Wanted.none rfl rfl ?_; refine TQ.pv (PV.lenStr rfl) Wanted.none rfl rfl ?_; refine TQ.pv (PV.eql rfl rfl) Wanted.none rfl rfl ?_; refine TQ.nil ?_; refine sd rfl (by omega) ?_; refine T.skip ?_; refine sq ?_; refine T.regionQ (by kernel_rfl) ?_; refine TQ.pv (PV.move rfl) Wanted.none rfl rfl ?_; refine TQ.pv (PV.nilCheck rfl) Wanted.none rfl rfl ?_; refine TQ.pv (PV.fieldAddr rfl) Wanted.none rfl rfl ?_; refine TQ.pv (PV.load1 rfl zq0 rfl) Wanted.none rfl rfl ?_; refine TQ.pv (PV.move rfl) Wanted.none rfl rfl ?_; refine TQ.pv (PV.nilCheck rfl) Wanted.none rfl rfl ?_; refine TQ.pv (PV.fieldAddr rfl) Wanted.none rfl rfl ?_; refine TQ.pv (PV.load1 rfl zq0 rfl) Wanted.none rfl rfl ?_; refine TQ.pv (PV.sliceStrL rfl rfl (by omega)) Wanted.none rfl rfl ?_; refine TQ.callV Wanted.none rfl rfl (hd) ?_; refine TQ.pv (PV.move rfl) Wanted.none rfl rfl ?_; refine TQ.pv (PV.extract rfl rfl) Wanted.none rfl rfl ?_; refine TQ.pv (PV.extract rfl rfl) Wanted.none rfl rfl ?_; refine TQ.pv (PV.assign rfl) Wanted.none rfl rfl ?_; refine TQ.pv (PV.assign rfl) Wanted.none rfl rfl ?_; refine TQ.nil ?_; refine zs3 ?_; refine sm ?_
    refine sa ?_; refine so ?_
    exact T.retW (Lv.finW _ (List.Sublist.refl _) (RV.tmp rfl rfl) ⟨rfl, rfl, rfl⟩)
theorem skip_fnS (b : Nat) (s : ByteArray) (pre rest : List Nat) (r : Nat) (H : Hp) (hT : U8T H) (h : At s pre (r :: rest)) :
    FnS Tryz.prog 170 #[.pointer (some ⟨b, 0, none⟩)] H [psB b s (ofs pre)] (.tuple #[]) [psB b s (ofs (pre ++ [r]))] := by
  have hsz := h.size
  have hle := h.sz
  have hd := h.decode H hT
  have he := encB_len r
  have hsz2 : ofs (r :: rest) = (encB r).length + ofs rest := by rw [show r :: rest = [r] ++ rest from rfl, ofs_app, ofs_one]
  have hn : ((ofs pre : Nat) : Int) + ((encB r).length : Int) = ((ofs (pre ++ [r]) : Nat) : Int) := by rw [ofs_app, ofs_one]; omega
  refine FnW.of_T (vs := [.pointer (some ⟨b, 0, none⟩)]) Tryz.func170 rfl rfl fun w => ?_; refine sq ?_; refine T.regionQ (by kernel_rfl) ?_; refine TQ.pv (PV.move rfl) Wanted.none rfl rfl ?_; refine TQ.pv (PV.nilCheck rfl) Wanted.none rfl rfl ?_; refine TQ.pv (PV.fieldAddr rfl) Wanted.none rfl rfl ?_; refine TQ.pv (PV.load1 rfl zq0 rfl) Wanted.none rfl rfl ?_; refine TQ.pv (PV.move rfl) Wanted.none rfl rfl ?_; refine TQ.pv (PV.nilCheck rfl) Wanted.none rfl rfl ?_; refine TQ.pv (PV.fieldAddr rfl) Wanted.none rfl rfl ?_; refine TQ.pv (PV.load1 rfl zq0 rfl) Wanted.none rfl rfl ?_; refine TQ.pv (PV.sliceStrL rfl rfl (by omega)) Wanted.none rfl rfl ?_; refine TQ.callV Wanted.none rfl rfl (hd) ?_; refine TQ.pv (PV.move rfl) Wanted.none rfl rfl ?_; refine TQ.pv (PV.extract rfl rfl) Wanted.none rfl rfl ?_; refine TQ.pv (PV.extract rfl rfl) Wanted.none rfl rfl ?_; refine TQ.pv (PV.assign rfl) Wanted.none rfl rfl ?_; refine TQ.pv (PV.assign rfl) Wanted.none rfl rfl ?_; refine TQ.nil ?_; refine sr ?_; refine sm ?_; refine sv (PV.nilCheck rfl) ?_; refine sf ?_; refine sl ?_; refine sm ?_; refine sv (PV.add rfl rfl (by omega)) ?_; refine sv (PV.nilCheck rfl) ?_; refine sf ?_; refine T.store1 Wanted.none rfl rfl rfl zq14 zq13 ?_; refine so ?_
  rw [hn]
  exact T.fallW (Lv.finW _ (by exact List.Sublist.refl _) (RV.none rfl) ⟨rfl, rfl, rfl⟩)
end Go.Proofs.YtpjdhokpfccahaaGreatDoor
