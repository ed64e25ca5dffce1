/- interval: Within, Overlapping. -/
import Derived.Test.YtapakgncdmmmaaaI6
namespace Go.Proofs.Ytapakgncdmmmaaa
open Go.RowKit

def chk2 (a b : List Sp) : Int := if chk1 a ≠ 0 then chk1 a else chk1 b
theorem check2 {u v : Value} {a b : List Sp} {H : Hp} {bl t : Nat} {fz : Nat × Nat} (h : H bl = some (.cells ([u] ++ ([v] ++ [])).toArray t fz)) (hu : SpL H u a) (hv : SpL H v b) (ha : a.length ≤ maxLen) (hb : b.length ≤ maxLen) : Fn Try.prog 28 #[.slice (some ⟨bl, 0, none⟩) 2 2] H (fun u _ => u = .int .i64 (chk2 a b)) := by
  have hsl : SlR H 1 (.slice (some ⟨bl, 0, none⟩) 2 2) [(u, a), (v, b)].length ([(u, a), (v, b)].flatMap fun p => [p.1]) := SlR.lit (n := 2) h rfl
  have := check_fn [(u, a), (v, b)] _ H hsl (by
    intro p hp
    rcases List.mem_cons.1 hp with rfl | hp
    · exact hu
    · obtain rfl := List.mem_singleton.1 hp; exact hv) (by simp) (by
    intro p hp
    rcases List.mem_cons.1 hp with rfl | hp
    · exact ha
    · obtain rfl := List.mem_singleton.1 hp; exact hb)
  have e : chkL ([(u, a), (v, b)].map (·.2)) = chk2 a b := by
    simp only [List.map, chkL, chk2]
    split
    · rfl
    · split
      · rfl
      · omega
  rw [e] at this
  exact this
theorem chk2_zero {a b : List Sp} (h : chk2 a b = 0) : chk1 a = 0 ∧ chk1 b = 0 := by
  unfold chk2 at h
  split at h
  · rename_i h1; exact absurd h h1
  · rename_i h1; exact ⟨by omega, h⟩
theorem filter_snoc {l : List Sp} {p : Sp → Bool} {i : Nat} {x : Sp} (hx : l[i]? = some x) : (l.take (i + 1)).filter p = (l.take i).filter p ++ (if p x then [x] else []) := by
  rw [List.take_add_one, hx, Option.toList_some, List.filter_append, List.filter_cons]
  split <;> simp
theorem filter_len (l : List Sp) (p : Sp → Bool) (i : Nat) : ((l.take i).filter p).length ≤ i := Nat.le_trans (List.length_filter_le _ _) (List.length_take_le _ _)
theorem drop_cons {l : List Sp} {i : Nat} {x : Sp} (hx : l[i]? = some x) : l.drop i = x :: l.drop (i + 1) := by
  have := List.getElem?_eq_some_iff.1 hx
  rw [List.drop_eq_getElem_cons this.1, this.2]
structure WG where
  i : Nat
  k : Nat
  c : List Sp
  v : Value
  lv : List (Nat × Obj)
set_option maxHeartbeats 4000000 in
theorem within_fn (a b : List Sp) (u v : Value) (H : Hp) (hu : SpL H u a) (hv : SpL H v b) (ha : a.length ≤ maxLen) (hb : b.length ≤ maxLen) : Fn Try.prog 21 #[u, v] H (ResL (chk2 a b) ((normS a).filter (inW (normS b)))) := by
  obtain ⟨ada, capa, rfl⟩ := hu.len
  obtain ⟨adb, capb, rfl⟩ := hv.len
  refine Fn.of_T (vs := [.slice ada a.length capa, .slice adb b.length capb]) Try.func21 rfl rfl fun w => ?_
  refine T.seq ?_
  refine T.region ?_
  refine T.pv (PV.assign rfl) Wanted.none rfl rfl ?_
  refine T.pv (PV.assign rfl) Wanted.none rfl rfl ?_
  refine T.opsNil ?_
  refine T.seq ?_
  refine T.seq ?_
  refine T.region ?_
  refine T.pv (PV.move rfl) Wanted.none rfl rfl ?_
  refine T.pv (PV.move rfl) Wanted.none rfl rfl ?_
  (refine T.buildSlice Wanted.none rfl rfl (by repeat (first | exact FillAll.nil | (apply FillAll.cons; (first | exact CellsR.one rfl | exact CellsR.agg); exact rfl))) (by exact rfl) (by exact rfl) ?_; intro b15)
  refine T.freezeLit ?_
  intro H1 hle1 hH1
  have hu1 := hu.mono hle1
  have hv1 := hv.mono hle1
  by_cases hc : chk2 a b = 0
  · obtain ⟨hca, hcb⟩ := chk2_zero hc
    obtain ⟨hla, hoka⟩ := chk1_zero hca
    obtain ⟨hlb, hokb⟩ := chk1_zero hcb
    have hck := check2 hH1 hu1 hv1 ha hb
    rw [hc] at hck ⊢
    refine T.callV Wanted.none rfl rfl (hck) ?_
    refine T.pv (PV.assign rfl) Wanted.none rfl rfl ?_
    refine T.opsNil ?_
    refine T.seq ?_
    refine T.region ?_
    refine T.pv (PV.move rfl) Wanted.none rfl rfl ?_
    refine T.pv (PV.neq rfl rfl) Wanted.none rfl rfl ?_
    refine T.opsNil ?_
    refine T.condF rfl rfl ?_
    refine T.skip ?_
    refine T.seq ?_
    refine T.region ?_
    refine T.pv (PV.assign rfl) Wanted.none rfl rfl ?_
    refine T.opsNil ?_
    refine T.seq ?_
    refine T.region ?_
    refine T.pv (PV.move rfl) Wanted.none rfl rfl ?_
    refine T.call Wanted.none rfl rfl (normal_fn b _ H1 hv1 (by omega)) ?_
    intro vb H2 hle2 hvb
    have hlnb := normS_len b
    have hsb := sortedS_fst (normS_sorted b)
    generalize normS b = nb at hvb hlnb hsb ⊢
    obtain ⟨adnb, capnb, rfl⟩ := hvb.len
    have hu2 := hu1.mono hle2
    refine T.pv (PV.assign rfl) Wanted.none rfl rfl ?_
    refine T.opsNil ?_
    refine T.seq ?_
    refine T.region ?_
    refine T.pv (PV.assign rfl) Wanted.none rfl rfl ?_
    refine T.pv (PV.assign rfl) Wanted.none rfl rfl ?_
    refine T.opsNil ?_
    refine T.seq ?_
    refine T.seq ?_
    refine T.region ?_
    refine T.pv (PV.move rfl) Wanted.none rfl rfl ?_
    refine T.call Wanted.none rfl rfl (normal_fn a _ H2 hu2 (by omega)) ?_
    intro va H3 hle3 hva
    have hlna := normS_len a
    have hsa := sortedS_fst (normS_sorted a)
    have hpos : ∀ s ∈ normS a, 0 < s.2 := fun s hs => by have := hoka s ((normS_mem a s).1 hs); omega
    generalize normS a = na at hva hlna hsa hpos ⊢
    obtain ⟨adna, capna, rfl⟩ := hva.len
    have hvb3 := hvb.mono hle3
    refine T.pv (PV.lenSl rfl) Wanted.none rfl rfl ?_
    refine T.pv (PV.move rfl) Wanted.none rfl rfl ?_
    refine T.opsNil ?_
    refine T.block ?_
    refine T.loop (γ := WG) (fun g => g.i ≤ na.length ∧ g.k ≤ nb.length ∧ (∀ t ∈ nb.take g.k, ∀ s ∈ na.drop g.i, t.1 ≤ s.1) ∧ g.c = (na.take g.i).filter (inW nb) ∧ SpV g.v g.lv g.c)
      (fun g => [(25, .int .i64 (g.i : Int)), (24, .int .i64 (na.length : Int)), (23, .slice adna na.length capna), (8, .slice adnb nb.length capnb), (9, .int .i64 (g.k : Int)), (10, .int .i64 (maxE (nb.take g.k))), (7, g.v)])
      (fun g => g.lv) (fun _ => H3) (fun g => na.length - g.i) ⟨0, 0, [], .slice none 0 0, []⟩ ⟨by simp, by simp, by simp, rfl, Vec.nil _ _⟩ (by repeat (first | exact trivial | refine And.intro rfl ?_)) (by repeat (first | exact List.Sublist.slnil | exact List.nil_sublist _ | exact List.Sublist.refl _ | exact List.sublist_append_left _ [] | apply List.Sublist.cons_cons | apply List.Sublist.cons | refine List.Sublist.append_left ?_ _ | refine List.sublist_append_of_sublist_right ?_)) rfl ?_
    rintro ⟨i, k, c, vc, lv⟩ ⟨i1, i2, i3, i4, i5⟩
    dsimp only at i1 i2 i3 i4 i5 ⊢
    have hcl := filter_len na (inW nb) i
    rw [← i4] at hcl
    obtain ⟨advc, capvc, rfl⟩ := i5.val
    by_cases hi : i < na.length
    · obtain ⟨s, hs⟩ : ∃ x, na[i]? = some x := ⟨_, List.getElem?_eq_getElem hi⟩
      obtain ⟨ba, offa, rfl, hsuba⟩ := hva.span hs
      have hdr := drop_cons hs
      have hsd : (na.drop i).Pairwise (fun a b => a.1 ≤ b.1) := hsa.sublist (List.drop_sublist _ _)
      rw [hdr] at hsd i3
      have hsd' := List.pairwise_cons.1 hsd
      have hsp := hpos s (List.mem_of_getElem? hs)
      refine T.seq ?_
      refine T.region ?_
      refine T.pv (PV.lss rfl rfl) Wanted.none rfl rfl ?_
      refine T.opsNil ?_
      refine T.seq ?_
      refine T.condT rfl (decide_eq_true (by omega)) ?_
      refine T.skip ?_
      refine T.seq ?_
      refine T.block ?_
      refine T.seq ?_
      refine T.region ?_
      refine T.pv (PV.indexAddr rfl rfl (by omega)) Wanted.none rfl rfl ?_
      refine T.pv (PV.loadSubAll rfl (by assumption) (by exact rfl)) Wanted.none rfl rfl ?_
      (refine T.alloc Wanted.none rfl ?_; intro b12)
      refine T.storeA Wanted.none rfl rfl (by repeat (first | exact trivial | refine And.intro rfl ?_)) (by exact rfl) (by repeat (first | exact Upd.head | apply Upd.tail | apply Upd.app)) (by repeat (first | exact Splice.nil | apply Splice.cons | apply Splice.skip)) ?_
      refine T.opsNil ?_
      refine T.seq ?_
      refine T.block ?_
      refine T.loop (γ := Nat) (fun k => k ≤ nb.length ∧ ∀ t ∈ nb.take k, t.1 ≤ s.1)
        (fun k => [(25, .int .i64 (i : Int)), (24, .int .i64 (na.length : Int)), (23, .slice (some ⟨ba, offa, none⟩) na.length capna), (8, .slice adnb nb.length capnb), (9, .int .i64 (k : Int)), (10, .int .i64 (maxE (nb.take k))), (7, .slice advc c.length capvc), (12, .pointer (some ⟨b12, 0, none⟩))])
        (fun _ => (b12, .cells #[.int .i64 s.1, .int .i64 s.2] 23 (0, 0)) :: lv) (fun _ => H3) (fun k => nb.length - k) k ⟨i2, fun t ht => i3 t ht s List.mem_cons_self⟩ (by repeat (first | exact trivial | refine And.intro rfl ?_)) (by repeat (first | exact List.Sublist.slnil | exact List.nil_sublist _ | exact List.Sublist.refl _ | exact List.sublist_append_left _ [] | apply List.Sublist.cons_cons | apply List.Sublist.cons | refine List.Sublist.append_left ?_ _ | refine List.sublist_append_of_sublist_right ?_)) rfl ?_
      rintro k ⟨k1, k2⟩
      have hstop : (∀ t ∈ nb.drop k, s.1 < t.1) → ∀ c', c' = c ++ (if decide (s.2 ≤ maxE (nb.take k)) then [s] else []) → c' = (na.take (i + 1)).filter (inW nb) := by
        rintro hd c' rfl
        rw [filter_snoc hs, ← i4, within_ok k2 hd hsp]
      have hnext : ∀ t ∈ nb.take k, ∀ s' ∈ na.drop (i + 1), t.1 ≤ s'.1 := by
        intro t ht s' hs'
        have h1 := k2 t ht
        have h2 := hsd'.1 s' hs'
        omega
      by_cases hk : k < nb.length
      · obtain ⟨t, ht⟩ : ∃ x, nb[k]? = some x := ⟨_, List.getElem?_eq_getElem hk⟩
        obtain ⟨bb, offb, rfl, hsubb⟩ := hvb3.span ht
        by_cases hle : t.1 ≤ s.1
        · have htk : nb.take (k + 1) = nb.take k ++ [t] := by rw [List.take_add_one, ht]; rfl
          have hmx := maxE_snoc (nb.take k) t
          rw [← htk] at hmx
          refine T.seq ?_
          refine T.seq ?_
          refine T.regionQ (by kernel_rfl) ?_
          refine TQ.pv (PV.move rfl) Wanted.none rfl rfl ?_
          refine TQ.pv (PV.move rfl) Wanted.none rfl rfl ?_
          refine TQ.pv (PV.lenSl rfl) Wanted.none rfl rfl ?_
          refine TQ.pv (PV.lss rfl rfl) Wanted.none rfl rfl ?_
          refine TQ.pv (PV.move rfl) Wanted.none rfl rfl ?_
          refine TQ.setT (d := 33) rfl (by omega) ?_
          refine TQ.pv (PV.move rfl) (Wanted.guard rfl rfl rfl) rfl rfl ?_
          refine TQ.pv (PV.move rfl) (Wanted.guard rfl rfl rfl) rfl rfl ?_
          refine TQ.pv (PV.indexAddr rfl rfl (by omega)) (Wanted.guard rfl rfl rfl) rfl rfl ?_
          refine TQ.pv (PV.fieldAddr rfl) (Wanted.guard rfl rfl rfl) rfl rfl ?_
          refine TQ.pv (PV.loadSub rfl (by assumption) rfl) (Wanted.guard rfl rfl rfl) rfl rfl ?_
          refine TQ.pv (PV.fieldAddr rfl) (Wanted.guard rfl rfl rfl) rfl rfl ?_
          refine TQ.pv (PV.load1 rfl (by first | exact .fro (by assumption) | exact .own (by repeat (first | exact List.Mem.head _ | apply List.Mem.tail | apply List.mem_append_right))) rfl) (Wanted.guard rfl rfl rfl) rfl rfl ?_
          refine TQ.pv (PV.leq rfl rfl) (Wanted.guard rfl rfl rfl) rfl rfl ?_
          refine TQ.pv (PV.pickT rfl rfl rfl) Wanted.none rfl rfl ?_
          refine TQ.nil ?_
          refine T.condT rfl (decide_eq_true (by omega)) ?_
          refine T.skip ?_
          refine T.seq ?_
          refine T.block ?_
          refine T.region ?_
          refine T.pv (PV.move rfl) Wanted.none rfl rfl ?_
          refine T.pv (PV.move rfl) Wanted.none rfl rfl ?_
          refine T.pv (PV.move rfl) Wanted.none rfl rfl ?_
          refine T.pv (PV.indexAddr rfl rfl (by omega)) Wanted.none rfl rfl ?_
          refine T.pv (PV.fieldAddr rfl) Wanted.none rfl rfl ?_
          refine T.pv (PV.loadSub rfl (by assumption) rfl) Wanted.none rfl rfl ?_
          refine T.pv (PV.max2 rfl rfl) Wanted.none rfl rfl ?_
          refine T.pv (PV.assign rfl) Wanted.none rfl rfl ?_
          refine T.opsNil ?_
          refine T.blkEnd ?_
          refine T.region ?_
          refine T.pv (PV.move rfl) Wanted.none rfl rfl ?_
          refine T.pv (PV.add rfl rfl (by omega)) Wanted.none rfl rfl ?_
          refine T.pv (PV.assign rfl) Wanted.none rfl rfl ?_
          refine T.opsNil ?_
          rw [← hmx]
          refine T.next (k + 1) ⟨by omega, ?_⟩ (by omega) (by repeat (first | exact trivial | refine And.intro rfl ?_)) (by repeat (first | exact List.Sublist.slnil | exact List.nil_sublist _ | exact List.Sublist.refl _ | exact List.sublist_append_left _ [] | apply List.Sublist.cons_cons | apply List.Sublist.cons | refine List.Sublist.append_left ?_ _ | refine List.sublist_append_of_sublist_right ?_)) rfl
          intro t' ht'
          rw [htk] at ht'
          rcases List.mem_append.1 ht' with h | h
          · exact k2 t' h
          · obtain rfl := List.mem_singleton.1 h; exact hle
        · have hd : ∀ t' ∈ nb.drop k, s.1 < t'.1 := by
            have hsdb : (nb.drop k).Pairwise (fun a b => a.1 ≤ b.1) := hsb.sublist (List.drop_sublist _ _)
            rw [drop_cons ht] at hsdb ⊢
            intro t' ht'
            rcases List.mem_cons.1 ht' with h | h
            · subst h; omega
            · have := (List.pairwise_cons.1 hsdb).1 t' h; omega
          have hres := hstop hd
          by_cases hin : s.2 ≤ maxE (nb.take k)
          · rw [decide_eq_true hin] at hres
            refine T.seq ?_
            refine T.seq ?_
            refine T.regionQ (by kernel_rfl) ?_
            refine TQ.pv (PV.move rfl) Wanted.none rfl rfl ?_
            refine TQ.pv (PV.move rfl) Wanted.none rfl rfl ?_
            refine TQ.pv (PV.lenSl rfl) Wanted.none rfl rfl ?_
            refine TQ.pv (PV.lss rfl rfl) Wanted.none rfl rfl ?_
            refine TQ.pv (PV.move rfl) Wanted.none rfl rfl ?_
            refine TQ.setT (d := 33) rfl (by omega) ?_
            refine TQ.pv (PV.move rfl) (Wanted.guard rfl rfl rfl) rfl rfl ?_
            refine TQ.pv (PV.move rfl) (Wanted.guard rfl rfl rfl) rfl rfl ?_
            refine TQ.pv (PV.indexAddr rfl rfl (by omega)) (Wanted.guard rfl rfl rfl) rfl rfl ?_
            refine TQ.pv (PV.fieldAddr rfl) (Wanted.guard rfl rfl rfl) rfl rfl ?_
            refine TQ.pv (PV.loadSub rfl (by assumption) rfl) (Wanted.guard rfl rfl rfl) rfl rfl ?_
            refine TQ.pv (PV.fieldAddr rfl) (Wanted.guard rfl rfl rfl) rfl rfl ?_
            refine TQ.pv (PV.load1 rfl (by first | exact .fro (by assumption) | exact .own (by repeat (first | exact List.Mem.head _ | apply List.Mem.tail | apply List.mem_append_right))) rfl) (Wanted.guard rfl rfl rfl) rfl rfl ?_
            refine TQ.pv (PV.leq rfl rfl) (Wanted.guard rfl rfl rfl) rfl rfl ?_
            refine TQ.pv (PV.pickT rfl rfl rfl) Wanted.none rfl rfl ?_
            refine TQ.nil ?_
            refine T.condF rfl (decide_eq_false (by omega)) ?_
            refine T.exit rfl ?_
            refine T.seq ?_
            refine T.region ?_
            refine T.pv (PV.fieldAddr rfl) Wanted.none rfl rfl ?_
            refine T.pv (PV.load1 rfl (by first | exact .fro (by assumption) | exact .own (by repeat (first | exact List.Mem.head _ | apply List.Mem.tail | apply List.mem_append_right))) rfl) Wanted.none rfl rfl ?_
            refine T.pv (PV.move rfl) Wanted.none rfl rfl ?_
            refine T.pv (PV.leq rfl rfl) Wanted.none rfl rfl ?_
            refine T.opsNil ?_
            refine T.condT rfl (decide_eq_true (by omega)) ?_
            refine T.region ?_
            refine T.pv (PV.move rfl) Wanted.none rfl rfl ?_
            refine T.pv (PV.loadAll rfl (by first | exact .fro (by assumption) | exact .own (by repeat (first | exact List.Mem.head _ | apply List.Mem.tail | apply List.mem_append_right))) (by exact rfl)) Wanted.none rfl rfl ?_
            (refine T.buildSlice Wanted.none rfl rfl (by repeat (first | exact FillAll.nil | (apply FillAll.cons; (first | exact CellsR.one rfl | exact CellsR.agg); exact rfl))) (by exact rfl) (by exact rfl) ?_; intro b58)
            refine T.appendE [_, _] (lv := lv) Wanted.none rfl rfl rfl i5 (Src.cells (m := 1) (ys := encS s) (.own (by repeat (first | exact List.Mem.head _ | apply List.Mem.tail | apply List.mem_append_right))) rfl rfl) (one_encS s) (by omega) ?_
            intro v2 lv2 hv2 _
            refine T.pv (PV.assign rfl) Wanted.none rfl rfl ?_
            refine T.opsNil ?_
            refine T.blkEnd ?_
            refine T.region ?_
            refine T.pv (PV.add rfl rfl (by omega)) Wanted.none rfl rfl ?_
            refine T.pv (PV.move rfl) Wanted.none rfl rfl ?_
            refine T.opsNil ?_
            refine T.next ⟨i + 1, k, c ++ [s], v2, lv2⟩ ⟨by dsimp only; omega, k1, hnext, hres _ rfl, ?_⟩ (by dsimp only; omega) (by repeat (first | exact trivial | refine And.intro rfl ?_)) (by repeat (first | exact List.Sublist.slnil | exact List.nil_sublist _ | exact List.Sublist.refl _ | exact List.sublist_append_left _ [] | apply List.Sublist.cons_cons | apply List.Sublist.cons | refine List.Sublist.append_left ?_ _ | refine List.sublist_append_of_sublist_right ?_)) rfl
            show Vec 23 2 _ _ _ _
            rw [List.length_append, List.flatMap_append]; exact hv2
          · rw [decide_eq_false hin] at hres
            refine T.seq ?_
            refine T.seq ?_
            refine T.regionQ (by kernel_rfl) ?_
            refine TQ.pv (PV.move rfl) Wanted.none rfl rfl ?_
            refine TQ.pv (PV.move rfl) Wanted.none rfl rfl ?_
            refine TQ.pv (PV.lenSl rfl) Wanted.none rfl rfl ?_
            refine TQ.pv (PV.lss rfl rfl) Wanted.none rfl rfl ?_
            refine TQ.pv (PV.move rfl) Wanted.none rfl rfl ?_
            refine TQ.setT (d := 33) rfl (by omega) ?_
            refine TQ.pv (PV.move rfl) (Wanted.guard rfl rfl rfl) rfl rfl ?_
            refine TQ.pv (PV.move rfl) (Wanted.guard rfl rfl rfl) rfl rfl ?_
            refine TQ.pv (PV.indexAddr rfl rfl (by omega)) (Wanted.guard rfl rfl rfl) rfl rfl ?_
            refine TQ.pv (PV.fieldAddr rfl) (Wanted.guard rfl rfl rfl) rfl rfl ?_
            refine TQ.pv (PV.loadSub rfl (by assumption) rfl) (Wanted.guard rfl rfl rfl) rfl rfl ?_
            refine TQ.pv (PV.fieldAddr rfl) (Wanted.guard rfl rfl rfl) rfl rfl ?_
            refine TQ.pv (PV.load1 rfl (by first | exact .fro (by assumption) | exact .own (by repeat (first | exact List.Mem.head _ | apply List.Mem.tail | apply List.mem_append_right))) rfl) (Wanted.guard rfl rfl rfl) rfl rfl ?_
            refine TQ.pv (PV.leq rfl rfl) (Wanted.guard rfl rfl rfl) rfl rfl ?_
            refine TQ.pv (PV.pickT rfl rfl rfl) Wanted.none rfl rfl ?_
            refine TQ.nil ?_
            refine T.condF rfl (decide_eq_false (by omega)) ?_
            refine T.exit rfl ?_
            refine T.seq ?_
            refine T.region ?_
            refine T.pv (PV.fieldAddr rfl) Wanted.none rfl rfl ?_
            refine T.pv (PV.load1 rfl (by first | exact .fro (by assumption) | exact .own (by repeat (first | exact List.Mem.head _ | apply List.Mem.tail | apply List.mem_append_right))) rfl) Wanted.none rfl rfl ?_
            refine T.pv (PV.move rfl) Wanted.none rfl rfl ?_
            refine T.pv (PV.leq rfl rfl) Wanted.none rfl rfl ?_
            refine T.opsNil ?_
            refine T.condF rfl (decide_eq_false (by omega)) ?_
            refine T.skip ?_
            refine T.blkEnd ?_
            refine T.region ?_
            refine T.pv (PV.add rfl rfl (by omega)) Wanted.none rfl rfl ?_
            refine T.pv (PV.move rfl) Wanted.none rfl rfl ?_
            refine T.opsNil ?_
            exact T.next ⟨i + 1, k, c, _, lv⟩ ⟨by dsimp only; omega, k1, hnext, hres _ (by simp), i5⟩ (by dsimp only; omega) (by repeat (first | exact trivial | refine And.intro rfl ?_)) (by repeat (first | exact List.Sublist.slnil | exact List.nil_sublist _ | exact List.Sublist.refl _ | exact List.sublist_append_left _ [] | apply List.Sublist.cons_cons | apply List.Sublist.cons | refine List.Sublist.append_left ?_ _ | refine List.sublist_append_of_sublist_right ?_)) rfl
      · have hd : ∀ t' ∈ nb.drop k, s.1 < t'.1 := by
          intro t' ht'
          rw [List.drop_of_length_le (by omega)] at ht'; cases ht'
        have hres := hstop hd
        by_cases hin : s.2 ≤ maxE (nb.take k)
        · rw [decide_eq_true hin] at hres
          refine T.seq ?_
          refine T.seq ?_
          refine T.regionQ (by kernel_rfl) ?_
          refine TQ.pv (PV.move rfl) Wanted.none rfl rfl ?_
          refine TQ.pv (PV.move rfl) Wanted.none rfl rfl ?_
          refine TQ.pv (PV.lenSl rfl) Wanted.none rfl rfl ?_
          refine TQ.pv (PV.lss rfl rfl) Wanted.none rfl rfl ?_
          refine TQ.pv (PV.move rfl) Wanted.none rfl rfl ?_
          refine TQ.setF (d := 33) rfl (by omega) ?_
          refine TQ.pass (Unwanted.guard rfl rfl rfl) rfl rfl ?_
          refine TQ.pass (Unwanted.guard rfl rfl rfl) rfl rfl ?_
          refine TQ.pass (Unwanted.guard rfl rfl rfl) rfl rfl ?_
          refine TQ.pass (Unwanted.guard rfl rfl rfl) rfl rfl ?_
          refine TQ.pass (Unwanted.guard rfl rfl rfl) rfl rfl ?_
          refine TQ.pass (Unwanted.guard rfl rfl rfl) rfl rfl ?_
          refine TQ.pass (Unwanted.guard rfl rfl rfl) rfl rfl ?_
          refine TQ.pass (Unwanted.guard rfl rfl rfl) rfl rfl ?_
          refine TQ.pv (PV.pickF rfl rfl rfl) Wanted.none rfl rfl ?_
          refine TQ.nil ?_
          refine T.condF rfl rfl ?_
          refine T.exit rfl ?_
          refine T.seq ?_
          refine T.region ?_
          refine T.pv (PV.fieldAddr rfl) Wanted.none rfl rfl ?_
          refine T.pv (PV.load1 rfl (by first | exact .fro (by assumption) | exact .own (by repeat (first | exact List.Mem.head _ | apply List.Mem.tail | apply List.mem_append_right))) rfl) Wanted.none rfl rfl ?_
          refine T.pv (PV.move rfl) Wanted.none rfl rfl ?_
          refine T.pv (PV.leq rfl rfl) Wanted.none rfl rfl ?_
          refine T.opsNil ?_
          refine T.condT rfl (decide_eq_true (by omega)) ?_
          refine T.region ?_
          refine T.pv (PV.move rfl) Wanted.none rfl rfl ?_
          refine T.pv (PV.loadAll rfl (by first | exact .fro (by assumption) | exact .own (by repeat (first | exact List.Mem.head _ | apply List.Mem.tail | apply List.mem_append_right))) (by exact rfl)) Wanted.none rfl rfl ?_
          (refine T.buildSlice Wanted.none rfl rfl (by repeat (first | exact FillAll.nil | (apply FillAll.cons; (first | exact CellsR.one rfl | exact CellsR.agg); exact rfl))) (by exact rfl) (by exact rfl) ?_; intro b58)
          refine T.appendE [_, _] (lv := lv) Wanted.none rfl rfl rfl i5 (Src.cells (m := 1) (ys := encS s) (.own (by repeat (first | exact List.Mem.head _ | apply List.Mem.tail | apply List.mem_append_right))) rfl rfl) (one_encS s) (by omega) ?_
          intro v2 lv2 hv2 _
          refine T.pv (PV.assign rfl) Wanted.none rfl rfl ?_
          refine T.opsNil ?_
          refine T.blkEnd ?_
          refine T.region ?_
          refine T.pv (PV.add rfl rfl (by omega)) Wanted.none rfl rfl ?_
          refine T.pv (PV.move rfl) Wanted.none rfl rfl ?_
          refine T.opsNil ?_
          refine T.next ⟨i + 1, k, c ++ [s], v2, lv2⟩ ⟨by dsimp only; omega, k1, hnext, hres _ rfl, ?_⟩ (by dsimp only; omega) (by repeat (first | exact trivial | refine And.intro rfl ?_)) (by repeat (first | exact List.Sublist.slnil | exact List.nil_sublist _ | exact List.Sublist.refl _ | exact List.sublist_append_left _ [] | apply List.Sublist.cons_cons | apply List.Sublist.cons | refine List.Sublist.append_left ?_ _ | refine List.sublist_append_of_sublist_right ?_)) rfl
          show Vec 23 2 _ _ _ _
          rw [List.length_append, List.flatMap_append]; exact hv2
        · rw [decide_eq_false hin] at hres
          refine T.seq ?_
          refine T.seq ?_
          refine T.regionQ (by kernel_rfl) ?_
          refine TQ.pv (PV.move rfl) Wanted.none rfl rfl ?_
          refine TQ.pv (PV.move rfl) Wanted.none rfl rfl ?_
          refine TQ.pv (PV.lenSl rfl) Wanted.none rfl rfl ?_
          refine TQ.pv (PV.lss rfl rfl) Wanted.none rfl rfl ?_
          refine TQ.pv (PV.move rfl) Wanted.none rfl rfl ?_
          refine TQ.setF (d := 33) rfl (by omega) ?_
          refine TQ.pass (Unwanted.guard rfl rfl rfl) rfl rfl ?_
          refine TQ.pass (Unwanted.guard rfl rfl rfl) rfl rfl ?_
          refine TQ.pass (Unwanted.guard rfl rfl rfl) rfl rfl ?_
          refine TQ.pass (Unwanted.guard rfl rfl rfl) rfl rfl ?_
          refine TQ.pass (Unwanted.guard rfl rfl rfl) rfl rfl ?_
          refine TQ.pass (Unwanted.guard rfl rfl rfl) rfl rfl ?_
          refine TQ.pass (Unwanted.guard rfl rfl rfl) rfl rfl ?_
          refine TQ.pass (Unwanted.guard rfl rfl rfl) rfl rfl ?_
          refine TQ.pv (PV.pickF rfl rfl rfl) Wanted.none rfl rfl ?_
          refine TQ.nil ?_
          refine T.condF rfl rfl ?_
          refine T.exit rfl ?_
          refine T.seq ?_
          refine T.region ?_
          refine T.pv (PV.fieldAddr rfl) Wanted.none rfl rfl ?_
          refine T.pv (PV.load1 rfl (by first | exact .fro (by assumption) | exact .own (by repeat (first | exact List.Mem.head _ | apply List.Mem.tail | apply List.mem_append_right))) rfl) Wanted.none rfl rfl ?_
          refine T.pv (PV.move rfl) Wanted.none rfl rfl ?_
          refine T.pv (PV.leq rfl rfl) Wanted.none rfl rfl ?_
          refine T.opsNil ?_
          refine T.condF rfl (decide_eq_false (by omega)) ?_
          refine T.skip ?_
          refine T.blkEnd ?_
          refine T.region ?_
          refine T.pv (PV.add rfl rfl (by omega)) Wanted.none rfl rfl ?_
          refine T.pv (PV.move rfl) Wanted.none rfl rfl ?_
          refine T.opsNil ?_
          exact T.next ⟨i + 1, k, c, _, lv⟩ ⟨by dsimp only; omega, k1, hnext, hres _ (by simp), i5⟩ (by dsimp only; omega) (by repeat (first | exact trivial | refine And.intro rfl ?_)) (by repeat (first | exact List.Sublist.slnil | exact List.nil_sublist _ | exact List.Sublist.refl _ | exact List.sublist_append_left _ [] | apply List.Sublist.cons_cons | apply List.Sublist.cons | refine List.Sublist.append_left ?_ _ | refine List.sublist_append_of_sublist_right ?_)) rfl
    · rw [List.take_of_length_le (by omega)] at i4
      refine T.seq ?_
      refine T.region ?_
      refine T.pv (PV.lss rfl rfl) Wanted.none rfl rfl ?_
      refine T.opsNil ?_
      refine T.seq ?_
      refine T.condF rfl (decide_eq_false (by omega)) ?_
      refine T.exit rfl ?_
      refine T.seq ?_
      refine T.region ?_
      refine T.pv (PV.move rfl) Wanted.none rfl rfl ?_
      refine T.pv (PV.assign rfl) Wanted.none rfl rfl ?_
      refine T.pv (PV.assign rfl) Wanted.none rfl rfl ?_
      refine T.opsNil ?_
      refine T.retF (Vec.freezeLv (l' := []) i5 (by rw [List.append_nil]; exact (by repeat (first | exact List.Sublist.slnil | exact List.nil_sublist _ | exact List.Sublist.refl _ | exact List.sublist_append_left _ [] | apply List.Sublist.cons_cons | apply List.Sublist.cons | refine List.Sublist.append_left ?_ _ | refine List.sublist_append_of_sublist_right ?_))) fun H' _ hsl => Lv.fin (RV.tmp2 rfl rfl rfl) ?_)
      rw [← i4]; exact ResL.ok rfl hsl
  · refine T.callV Wanted.none rfl rfl (check2 hH1 hu1 hv1 ha hb) ?_
    refine T.pv (PV.assign rfl) Wanted.none rfl rfl ?_
    refine T.opsNil ?_
    refine T.seq ?_
    refine T.region ?_
    refine T.pv (PV.move rfl) Wanted.none rfl rfl ?_
    refine T.pv (PV.neq rfl rfl) Wanted.none rfl rfl ?_
    refine T.opsNil ?_
    refine T.condT rfl (decide_eq_true (by omega)) ?_
    refine T.seq ?_
    refine T.region ?_
    refine T.pv (PV.move rfl) Wanted.none rfl rfl ?_
    refine T.pv (PV.assign rfl) Wanted.none rfl rfl ?_
    refine T.pv (PV.assign rfl) Wanted.none rfl rfl ?_
    refine T.opsNil ?_
    exact T.retF (Lv.fin (RV.tmp2 rfl rfl rfl) (ResL.err hc))
end Go.Proofs.Ytapakgncdmmmaaa
