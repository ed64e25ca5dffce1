/- interval: Containing, the reference's Choose. -/
import Derived.Test.YtapakgncdmmmaaaI8
namespace Go.Proofs.Ytapakgncdmmmaaa
open Go.RowKit

theorem intsV_len (l : List Int) : (intsV l).length = l.length := by
  have := flat_len (f := fun a : Int => [Value.int .i64 a]) (sz := 1) (fun _ => rfl) l
  rw [Nat.mul_one] at this; exact this
theorem intsV_get (l : List Int) (i : Nat) : (intsV l)[i]? = (l[i]?).map (Value.int .i64) := by
  have : intsV l = l.map (Value.int .i64) := by unfold intsV; induction l <;> simp_all
  rw [this, List.getElem?_map]
theorem intsV_set (l : List Int) (i : Nat) (x : Int) : (intsV l).set i (.int .i64 x) = intsV (l.set i x) := by
  have h : ∀ l : List Int, intsV l = l.map (Value.int .i64) := by intro l; unfold intsV; induction l <;> simp_all
  rw [h, h, List.map_set]
theorem intsV_zeros (n : Nat) : (List.replicate n [Value.int .i64 0]).flatten = intsV (List.replicate n 0) := by
  unfold intsV
  induction n with
  | zero => rfl
  | succ n ih => rw [List.replicate_succ, List.replicate_succ, List.flatten_cons, List.flatMap_cons, ih]
theorem minE_cons (x : Sp) (t : List Sp) : minE (x :: t) = min (minE t) x.2 := rfl
theorem Vec.freezeE {P : Program} {X : Cx} {e : Env} {H : Hp} {D : List Deferred} {k : List It} {el sz : Nat} {v : Value} {lv : List (Nat × Obj)} {n : Nat} {xs : List Value} (hv : Vec el sz v lv n xs)
    (h : ∀ H', H.le H' → SlR H' sz v n xs → T P X e [] H' D k) : T P X e lv H D k := by
  have := Vec.freeze (l := []) hv h
  rwa [List.append_nil] at this
theorem SlR.int {H : Hp} {ad : Option Addr} {n cap : Nat} {l : List Int} (h : SlR H 1 (.slice ad n cap) n (intsV l)) {i : Nat} {x : Int} (hn : i < n) (hx : l[i]? = some x) : ∃ b off, ad = some ⟨b, off, none⟩ ∧ SubC H b (off + i * 1) [.int .i64 x] := by
  obtain ⟨b, off, cap', hve, hsub⟩ := h.elem (i := i) hn (vs := [.int .i64 x]) (by
    have := flat_elem (f := fun a : Int => [Value.int .i64 a]) (sz := 1) (fun _ => rfl) l i x hx
    exact this)
  injection hve with e1 e2 e3
  exact ⟨b, off, e1, hsub⟩
structure MG where
  k : Int
  L : List Int
  v : Value
  lv : List (Nat × Obj)
set_option maxHeartbeats 8000000 in
theorem containing_fn (a b : List Sp) (u v : Value) (H : Hp) (hu : SpL H u a) (hv : SpL H v b) (ha : a.length ≤ maxLen) (hb : b.length ≤ maxLen) (hm : ∀ t ∈ b, t.2 ≤ 9223372036854775807) : Fn Try.prog 23 #[u, v] H (ResL (chk2 a b) ((normS a).filter (inC (normS b)))) := by
  obtain ⟨ada, capa, rfl⟩ := hu.len
  obtain ⟨adb, capb, rfl⟩ := hv.len
  refine Fn.of_T (vs := [.slice ada a.length capa, .slice adb b.length capb]) Try.func23 rfl rfl fun w => ?_
  refine T.seq ?_
  refine T.region ?_
  refine T.pv (PV.assign rfl) Wanted.none rfl rfl ?_
  refine T.pv (PV.assign rfl) Wanted.none rfl rfl ?_
  refine T.opsNil ?_
  refine T.seq ?_
  refine T.seq ?_
  refine T.region ?_
  refine T.pv (PV.move rfl) Wanted.none rfl rfl ?_
  refine T.pv (PV.move rfl) Wanted.none rfl rfl ?_
  (refine T.buildSlice Wanted.none rfl rfl (by repeat (first | exact FillAll.nil | (apply FillAll.cons; (first | exact CellsR.one rfl | exact CellsR.agg); exact rfl))) (by exact rfl) (by exact rfl) ?_; intro b16)
  refine T.freezeLit ?_
  intro H1 hle1 hH1
  have hu1 := hu.mono hle1
  have hv1 := hv.mono hle1
  by_cases hc : chk2 a b = 0
  · obtain ⟨hca, hcb⟩ := chk2_zero hc
    obtain ⟨hla, hoka⟩ := chk1_zero hca
    obtain ⟨hlb, hokb⟩ := chk1_zero hcb
    have hck := check2 hH1 hu1 hv1 ha hb
    rw [hc] at hck ⊢
    refine T.callV Wanted.none rfl rfl (hck) ?_
    refine T.pv (PV.assign rfl) Wanted.none rfl rfl ?_
    refine T.opsNil ?_
    refine T.seq ?_
    refine T.region ?_
    refine T.pv (PV.move rfl) Wanted.none rfl rfl ?_
    refine T.pv (PV.neq rfl rfl) Wanted.none rfl rfl ?_
    refine T.opsNil ?_
    refine T.condF rfl rfl ?_
    refine T.skip ?_
    refine T.seq ?_
    refine T.region ?_
    refine T.pv (PV.move rfl) Wanted.none rfl rfl ?_
    refine T.call Wanted.none rfl rfl (normal_fn b _ H1 hv1 (by omega)) ?_
    intro vb H2 hle2 hvb
    have hlnb := normS_len b
    have hsb := sortedS_fst (normS_sorted b)
    have hmb : ∀ t ∈ normS b, t.2 ≤ 9223372036854775807 := fun t ht => hm t ((normS_mem b t).1 ht)
    generalize normS b = nb at hvb hlnb hsb hmb ⊢
    obtain ⟨adnb, capnb, rfl⟩ := hvb.len
    have hu2 := hu1.mono hle2
    refine T.pv (PV.assign rfl) Wanted.none rfl rfl ?_
    refine T.opsNil ?_
    refine T.seq ?_
    refine T.region ?_
    refine T.pv (PV.move rfl) Wanted.none rfl rfl ?_
    refine T.pv (PV.lenSl rfl) Wanted.none rfl rfl ?_
    refine T.pv (PV.add rfl rfl (by omega)) Wanted.none rfl rfl ?_
    rw [show ((nb.length : Nat) : Int) + 1 = ((nb.length + 1 : Nat) : Int) by omega]
    refine T.makeSliceN (n := nb.length + 1) Wanted.none rfl rfl rfl (by omega) ?_
    intro v8 lv8 hv8
    rw [intsV_zeros] at hv8
    obtain ⟨b8, cap8, rfl⟩ := hv8.ptr (by omega)
    refine T.pv (PV.assign rfl) Wanted.none rfl rfl ?_
    refine T.opsNil ?_
    refine T.seq ?_
    refine T.region ?_
    refine T.pv (PV.move rfl) Wanted.none rfl rfl ?_
    refine T.pv (PV.move rfl) Wanted.none rfl rfl ?_
    refine T.pv (PV.lenSl rfl) Wanted.none rfl rfl ?_
    refine T.pv (PV.indexAddr rfl rfl (by omega)) Wanted.none rfl rfl ?_
    refine T.storeVec [] (lv := lv8) (bl := []) Wanted.none rfl rfl rfl hv8 (by rw [intsV_len, List.length_replicate]; omega) ?_
    intro lv9 hv9
    rw [Nat.zero_add, Int.toNat_natCast, Nat.mul_one, intsV_set] at hv9
    refine T.opsNil ?_
    refine T.seq ?_
    refine T.seq ?_
    refine T.region ?_
    refine T.pv (PV.move rfl) Wanted.none rfl rfl ?_
    refine T.pv (PV.lenSl rfl) Wanted.none rfl rfl ?_
    refine T.pv (PV.sub rfl rfl (by omega)) Wanted.none rfl rfl ?_
    refine T.pv (PV.assign rfl) Wanted.none rfl rfl ?_
    refine T.opsNil ?_
    refine T.block ?_
    refine T.loop (γ := MG) (fun g => -1 ≤ g.k ∧ g.k < nb.length ∧ g.L.length = nb.length + 1 ∧ (∀ j : Nat, g.k < j → j ≤ nb.length → g.L[j]? = some (minE (nb.drop j))) ∧ Vec 3 1 (.slice (some ⟨b8, 0, none⟩) (nb.length + 1) cap8) g.lv (nb.length + 1) (intsV g.L))
      (fun g => [(9, .int .i64 g.k), (8, .slice (some ⟨b8, 0, none⟩) (nb.length + 1) cap8), (7, .slice adnb nb.length capnb), (0, .slice ada a.length capa)])
      (fun g => g.lv) (fun _ => H2) (fun g => (g.k + 1).toNat) ⟨(nb.length : Int) - 1, (List.replicate (nb.length + 1) 0).set nb.length 9223372036854775807, .nilFunc, lv9⟩ ⟨by dsimp only; omega, by dsimp only; omega, by simp, ?_, hv9⟩ (by repeat (first | exact trivial | refine And.intro rfl ?_)) (by repeat (first | exact List.Sublist.slnil | exact List.nil_sublist _ | exact List.Sublist.refl _ | exact List.sublist_append_left _ [] | apply List.Sublist.cons_cons | apply List.Sublist.cons | refine List.Sublist.append_left ?_ _ | refine List.sublist_append_of_sublist_right ?_)) rfl ?_
    · intro j j1 j2
      dsimp only at j1
      obtain rfl : j = nb.length := by omega
      rw [List.getElem?_set_self (by simp), List.drop_of_length_le (Nat.le_refl _)]; rfl
    rintro ⟨k, L, _, lv⟩ ⟨k1, k2, k3, k4, k5⟩
    dsimp only at k1 k2 k3 k4 k5 ⊢
    by_cases hk : 0 ≤ k
    · obtain ⟨m, rfl⟩ : ∃ m : Nat, k = m := ⟨k.toNat, by omega⟩
      obtain ⟨t, ht⟩ : ∃ x, nb[m]? = some x := ⟨_, List.getElem?_eq_getElem (by omega)⟩
      obtain ⟨bb, offb, rfl, hsubb⟩ := hvb.span ht
      have hL := k4 (m + 1) (by omega) (by omega)
      have hld : (intsV L)[0 + ((m : Int) + 1).toNat * 1]? = some (.int .i64 (minE (nb.drop (m + 1)))) := by
        rw [show 0 + ((m : Int) + 1).toNat * 1 = m + 1 by omega, intsV_get, hL]; rfl
      have hmc : minE (nb.drop m) = min (minE (nb.drop (m + 1))) t.2 := by rw [drop_cons ht, minE_cons]
      refine T.seq ?_
      refine T.seq ?_
      refine T.region ?_
      refine T.pv (PV.move rfl) Wanted.none rfl rfl ?_
      refine T.pv (PV.geq rfl rfl) Wanted.none rfl rfl ?_
      refine T.opsNil ?_
      refine T.condT rfl rfl ?_
      refine T.skip ?_
      refine T.seq ?_
      refine T.block ?_
      refine T.regionT 14 (by kernel_rfl) ?_
      refine TQ.pv (PV.move rfl) Wanted.none rfl rfl ?_
      refine TQ.pv (PV.move rfl) Wanted.none rfl rfl ?_
      refine TQ.pv (PV.move rfl) Wanted.none rfl rfl ?_
      refine TQ.pv (PV.move rfl) Wanted.none rfl rfl ?_
      refine TQ.pv (PV.add rfl rfl (by omega)) Wanted.none rfl rfl ?_
      refine TQ.pv (PV.indexAddr rfl rfl (by omega)) Wanted.none rfl rfl ?_
      refine TQ.pv (PV.loadVec rfl (by assumption) (by repeat (first | exact List.Sublist.slnil | exact List.nil_sublist _ | exact List.Sublist.refl _ | exact List.sublist_append_left _ [] | apply List.Sublist.cons_cons | apply List.Sublist.cons | refine List.Sublist.append_left ?_ _ | refine List.sublist_append_of_sublist_right ?_)) (by assumption)) Wanted.none rfl rfl ?_
      refine TQ.pv (PV.move rfl) Wanted.none rfl rfl ?_
      refine TQ.pv (PV.move rfl) Wanted.none rfl rfl ?_
      refine TQ.pv (PV.indexAddr rfl rfl (by omega)) Wanted.none rfl rfl ?_
      refine TQ.pv (PV.fieldAddr rfl) Wanted.none rfl rfl ?_
      refine TQ.pv (PV.loadSub rfl (by assumption) rfl) Wanted.none rfl rfl ?_
      refine TQ.pv (PV.min2 rfl rfl) Wanted.none rfl rfl ?_
      refine TQ.pv (PV.indexAddr rfl rfl (by omega)) Wanted.none rfl rfl ?_
      refine TQ.nil ?_
      refine T.storeVecE [] (lv := lv) Wanted.none rfl rfl rfl k5 (by rw [intsV_len, k3]; omega) ?_
      intro lv2 hv2
      rw [show 0 + ((m : Nat) : Int).toNat * 1 = m by omega, intsV_set] at hv2
      refine T.opsNil ?_
      refine T.blkEnd ?_
      refine T.region ?_
      refine T.pv (PV.move rfl) Wanted.none rfl rfl ?_
      refine T.pv (PV.sub rfl rfl (by omega)) Wanted.none rfl rfl ?_
      refine T.pv (PV.assign rfl) Wanted.none rfl rfl ?_
      refine T.opsNil ?_
      refine T.next ⟨(m : Int) - 1, L.set m (min (minE (nb.drop (m + 1))) t.2), .nilFunc, lv2⟩ ⟨by dsimp only; omega, by dsimp only; omega, by rw [List.length_set]; exact k3, ?_, hv2⟩ (by dsimp only; omega) (by repeat (first | exact trivial | refine And.intro rfl ?_)) (by repeat (first | exact List.Sublist.slnil | exact List.nil_sublist _ | exact List.Sublist.refl _ | exact List.sublist_append_left _ [] | apply List.Sublist.cons_cons | apply List.Sublist.cons | refine List.Sublist.append_left ?_ _ | refine List.sublist_append_of_sublist_right ?_)) rfl
      intro j j1 j2
      dsimp only at j1 ⊢
      by_cases hjm : j = m
      · subst hjm; rw [List.getElem?_set_self (by omega), hmc]
      · rw [List.getElem?_set_ne (by omega)]; exact k4 j (by omega) j2
    · obtain rfl : k = -1 := by omega
      refine T.seq ?_
      refine T.seq ?_
      refine T.region ?_
      refine T.pv (PV.move rfl) Wanted.none rfl rfl ?_
      refine T.pv (PV.geq rfl rfl) Wanted.none rfl rfl ?_
      refine T.opsNil ?_
      refine T.condF rfl rfl ?_
      refine T.exit rfl ?_
      refine T.seq ?_
      refine T.region ?_
      refine T.pv (PV.assign rfl) Wanted.none rfl rfl ?_
      refine T.opsNil ?_
      refine T.seq ?_
      refine T.region ?_
      refine T.pv (PV.assign rfl) Wanted.none rfl rfl ?_
      refine T.opsNil ?_
      refine T.seq ?_
      refine T.seq ?_
      refine T.region ?_
      refine T.pv (PV.move rfl) Wanted.none rfl rfl ?_
      refine Vec.freezeE k5 ?_
      intro H3 hle3 hL
      have hu3 := hu2.mono hle3
      have hvb3 := hvb.mono hle3
      refine T.call Wanted.none rfl rfl (normal_fn a _ H3 hu3 (by omega)) ?_
      intro va H4 hle4 hva
      have hlna := normS_len a
      have hsa := sortedS_fst (normS_sorted a)
      generalize normS a = na at hva hlna hsa ⊢
      obtain ⟨adna, capna, rfl⟩ := hva.len
      have hvb4 := hvb3.mono hle4
      have hL4 := hL.mono hle4
      refine T.pv (PV.lenSl rfl) Wanted.none rfl rfl ?_
      refine T.pv (PV.move rfl) Wanted.none rfl rfl ?_
      refine T.opsNil ?_
      refine T.block ?_
      refine T.loop (γ := WG) (fun g => g.i ≤ na.length ∧ g.k ≤ nb.length ∧ (∀ t ∈ nb.take g.k, ∀ s ∈ na.drop g.i, t.1 < s.1) ∧ g.c = (na.take g.i).filter (inC nb) ∧ SpV g.v g.lv g.c)
        (fun g => [(55, .int .i64 (g.i : Int)), (54, .int .i64 (na.length : Int)), (53, .slice adna na.length capna), (7, .slice adnb nb.length capnb), (11, .int .i64 (g.k : Int)), (8, .slice (some ⟨b8, 0, none⟩) (nb.length + 1) cap8), (10, g.v)])
        (fun g => g.lv) (fun _ => H4) (fun g => na.length - g.i) ⟨0, 0, [], .slice none 0 0, []⟩ ⟨by simp, by simp, by simp, rfl, Vec.nil _ _⟩ (by repeat (first | exact trivial | refine And.intro rfl ?_)) (by repeat (first | exact List.Sublist.slnil | exact List.nil_sublist _ | exact List.Sublist.refl _ | exact List.sublist_append_left _ [] | apply List.Sublist.cons_cons | apply List.Sublist.cons | refine List.Sublist.append_left ?_ _ | refine List.sublist_append_of_sublist_right ?_)) rfl ?_
      rintro ⟨i, k, c, vc, lv⟩ ⟨i1, i2, i3, i4, i5⟩
      dsimp only at i1 i2 i3 i4 i5 ⊢
      have hcl := filter_len na (inC nb) i
      rw [← i4] at hcl
      obtain ⟨advc, capvc, rfl⟩ := i5.val
      by_cases hi : i < na.length
      · obtain ⟨s, hs⟩ : ∃ x, na[i]? = some x := ⟨_, List.getElem?_eq_getElem hi⟩
        obtain ⟨ba, offa, rfl, hsuba⟩ := hva.span hs
        have hdr := drop_cons hs
        have hsd : (na.drop i).Pairwise (fun a b => a.1 ≤ b.1) := hsa.sublist (List.drop_sublist _ _)
        rw [hdr] at hsd i3
        have hsd' := List.pairwise_cons.1 hsd
        refine T.seq ?_
        refine T.region ?_
        refine T.pv (PV.lss rfl rfl) Wanted.none rfl rfl ?_
        refine T.opsNil ?_
        refine T.seq ?_
        refine T.condT rfl (decide_eq_true (by omega)) ?_
        refine T.skip ?_
        refine T.seq ?_
        refine T.block ?_
        refine T.seq ?_
        refine T.region ?_
        refine T.pv (PV.indexAddr rfl rfl (by omega)) Wanted.none rfl rfl ?_
        refine T.pv (PV.loadSubAll rfl (by assumption) (by exact rfl)) Wanted.none rfl rfl ?_
        (refine T.alloc Wanted.none rfl ?_; intro b13)
        refine T.storeA Wanted.none rfl rfl (by repeat (first | exact trivial | refine And.intro rfl ?_)) (by exact rfl) (by repeat (first | exact Upd.head | apply Upd.tail | apply Upd.app)) (by repeat (first | exact Splice.nil | apply Splice.cons | apply Splice.skip)) ?_
        refine T.opsNil ?_
        refine T.seq ?_
        refine T.block ?_
        refine T.loop (γ := Nat) (fun k => k ≤ nb.length ∧ ∀ t ∈ nb.take k, t.1 < s.1)
          (fun k => [(55, .int .i64 (i : Int)), (54, .int .i64 (na.length : Int)), (53, .slice (some ⟨ba, offa, none⟩) na.length capna), (7, .slice adnb nb.length capnb), (11, .int .i64 (k : Int)), (8, .slice (some ⟨b8, 0, none⟩) (nb.length + 1) cap8), (10, .slice advc c.length capvc), (13, .pointer (some ⟨b13, 0, none⟩))])
          (fun _ => (b13, .cells #[.int .i64 s.1, .int .i64 s.2] 23 (0, 0)) :: lv) (fun _ => H4) (fun k => nb.length - k) k ⟨i2, fun t ht => i3 t ht s List.mem_cons_self⟩ (by repeat (first | exact trivial | refine And.intro rfl ?_)) (by repeat (first | exact List.Sublist.slnil | exact List.nil_sublist _ | exact List.Sublist.refl _ | exact List.sublist_append_left _ [] | apply List.Sublist.cons_cons | apply List.Sublist.cons | refine List.Sublist.append_left ?_ _ | refine List.sublist_append_of_sublist_right ?_)) rfl ?_
        rintro k ⟨k1, k2⟩
        have hnext : ∀ t ∈ nb.take k, ∀ s' ∈ na.drop (i + 1), t.1 < s'.1 := by
          intro t ht s' hs'
          have h1 := k2 t ht
          have h2 := hsd'.1 s' hs'
          omega
        by_cases hk : k < nb.length
        · obtain ⟨t, ht⟩ : ∃ x, nb[k]? = some x := ⟨_, List.getElem?_eq_getElem hk⟩
          obtain ⟨bb, offb, rfl, hsubb⟩ := hvb4.span ht
          obtain ⟨bL, offL, hbL, hsubL⟩ := hL4.int (i := k) (by omega) (k4 k (by omega) (by omega))
          injection hbL with hbL
          injection hbL with hb1 hb2
          subst hb1 hb2
          by_cases hle : t.1 < s.1
          · have htk : nb.take (k + 1) = nb.take k ++ [t] := by rw [List.take_add_one, ht]; rfl
            refine T.seq ?_
            refine T.seq ?_
            refine T.regionQ (by kernel_rfl) ?_
            refine TQ.pv (PV.move rfl) Wanted.none rfl rfl ?_
            refine TQ.pv (PV.move rfl) Wanted.none rfl rfl ?_
            refine TQ.pv (PV.lenSl rfl) Wanted.none rfl rfl ?_
            refine TQ.pv (PV.lss rfl rfl) Wanted.none rfl rfl ?_
            refine TQ.pv (PV.move rfl) Wanted.none rfl rfl ?_
            refine TQ.setT (d := 63) rfl (by omega) ?_
            refine TQ.pv (PV.move rfl) (Wanted.guard rfl rfl rfl) rfl rfl ?_
            refine TQ.pv (PV.move rfl) (Wanted.guard rfl rfl rfl) rfl rfl ?_
            refine TQ.pv (PV.indexAddr rfl rfl (by omega)) (Wanted.guard rfl rfl rfl) rfl rfl ?_
            refine TQ.pv (PV.fieldAddr rfl) (Wanted.guard rfl rfl rfl) rfl rfl ?_
            refine TQ.pv (PV.loadSub rfl (by assumption) rfl) (Wanted.guard rfl rfl rfl) rfl rfl ?_
            refine TQ.pv (PV.fieldAddr rfl) (Wanted.guard rfl rfl rfl) rfl rfl ?_
            refine TQ.pv (PV.load1 rfl (by first | exact .fro (by assumption) | exact .own (by repeat (first | exact List.Mem.head _ | apply List.Mem.tail | apply List.mem_append_right))) rfl) (Wanted.guard rfl rfl rfl) rfl rfl ?_
            refine TQ.pv (PV.lss rfl rfl) (Wanted.guard rfl rfl rfl) rfl rfl ?_
            refine TQ.pv (PV.pickT rfl rfl rfl) Wanted.none rfl rfl ?_
            refine TQ.nil ?_
            refine T.condT rfl (decide_eq_true (by omega)) ?_
            refine T.skip ?_
            refine T.block ?_
            refine T.region ?_
            refine T.pv (PV.move rfl) Wanted.none rfl rfl ?_
            refine T.pv (PV.add rfl rfl (by omega)) Wanted.none rfl rfl ?_
            refine T.pv (PV.assign rfl) Wanted.none rfl rfl ?_
            refine T.opsNil ?_
            refine T.blkEnd ?_
            refine T.next (k + 1) ⟨by omega, ?_⟩ (by omega) (by repeat (first | exact trivial | refine And.intro rfl ?_)) (by repeat (first | exact List.Sublist.slnil | exact List.nil_sublist _ | exact List.Sublist.refl _ | exact List.sublist_append_left _ [] | apply List.Sublist.cons_cons | apply List.Sublist.cons | refine List.Sublist.append_left ?_ _ | refine List.sublist_append_of_sublist_right ?_)) rfl
            intro t' ht'
            rw [htk] at ht'
            rcases List.mem_append.1 ht' with h | h
            · exact k2 t' h
            · obtain rfl := List.mem_singleton.1 h; exact hle
          · have hd : ∀ t' ∈ nb.drop k, s.1 ≤ t'.1 := by
              have hsdb : (nb.drop k).Pairwise (fun a b => a.1 ≤ b.1) := hsb.sublist (List.drop_sublist _ _)
              rw [drop_cons ht] at hsdb ⊢
              intro t' ht'
              rcases List.mem_cons.1 ht' with h | h
              · subst h; omega
              · have := (List.pairwise_cons.1 hsdb).1 t' h; omega
            have hco := containing_ok k2 hd hmb
            have hres := filter_snoc (p := inC nb) hs
            rw [hco, ← i4] at hres
            by_cases hin : minE (nb.drop k) ≤ s.2
            · rw [decide_eq_true ⟨hk, hin⟩] at hres
              refine T.seq ?_
              refine T.seq ?_
              refine T.regionQ (by kernel_rfl) ?_
              refine TQ.pv (PV.move rfl) Wanted.none rfl rfl ?_
              refine TQ.pv (PV.move rfl) Wanted.none rfl rfl ?_
              refine TQ.pv (PV.lenSl rfl) Wanted.none rfl rfl ?_
              refine TQ.pv (PV.lss rfl rfl) Wanted.none rfl rfl ?_
              refine TQ.pv (PV.move rfl) Wanted.none rfl rfl ?_
              refine TQ.setT (d := 63) rfl (by omega) ?_
              refine TQ.pv (PV.move rfl) (Wanted.guard rfl rfl rfl) rfl rfl ?_
              refine TQ.pv (PV.move rfl) (Wanted.guard rfl rfl rfl) rfl rfl ?_
              refine TQ.pv (PV.indexAddr rfl rfl (by omega)) (Wanted.guard rfl rfl rfl) rfl rfl ?_
              refine TQ.pv (PV.fieldAddr rfl) (Wanted.guard rfl rfl rfl) rfl rfl ?_
              refine TQ.pv (PV.loadSub rfl (by assumption) rfl) (Wanted.guard rfl rfl rfl) rfl rfl ?_
              refine TQ.pv (PV.fieldAddr rfl) (Wanted.guard rfl rfl rfl) rfl rfl ?_
              refine TQ.pv (PV.load1 rfl (by first | exact .fro (by assumption) | exact .own (by repeat (first | exact List.Mem.head _ | apply List.Mem.tail | apply List.mem_append_right))) rfl) (Wanted.guard rfl rfl rfl) rfl rfl ?_
              refine TQ.pv (PV.lss rfl rfl) (Wanted.guard rfl rfl rfl) rfl rfl ?_
              refine TQ.pv (PV.pickT rfl rfl rfl) Wanted.none rfl rfl ?_
              refine TQ.nil ?_
              refine T.condF rfl (decide_eq_false (by omega)) ?_
              refine T.exit rfl ?_
              refine T.seq ?_
              refine T.regionQ (by kernel_rfl) ?_
              refine TQ.pv (PV.move rfl) Wanted.none rfl rfl ?_
              refine TQ.pv (PV.move rfl) Wanted.none rfl rfl ?_
              refine TQ.pv (PV.lenSl rfl) Wanted.none rfl rfl ?_
              refine TQ.pv (PV.lss rfl rfl) Wanted.none rfl rfl ?_
              refine TQ.pv (PV.move rfl) Wanted.none rfl rfl ?_
              refine TQ.setT (d := 79) rfl (by omega) ?_
              refine TQ.pv (PV.move rfl) (Wanted.guard rfl rfl rfl) rfl rfl ?_
              refine TQ.pv (PV.move rfl) (Wanted.guard rfl rfl rfl) rfl rfl ?_
              refine TQ.pv (PV.indexAddr rfl rfl (by omega)) (Wanted.guard rfl rfl rfl) rfl rfl ?_
              refine TQ.pv (PV.loadSub0 rfl (by assumption)) (Wanted.guard rfl rfl rfl) rfl rfl ?_
              refine TQ.pv (PV.fieldAddr rfl) (Wanted.guard rfl rfl rfl) rfl rfl ?_
              refine TQ.pv (PV.load1 rfl (by first | exact .fro (by assumption) | exact .own (by repeat (first | exact List.Mem.head _ | apply List.Mem.tail | apply List.mem_append_right))) rfl) (Wanted.guard rfl rfl rfl) rfl rfl ?_
              refine TQ.pv (PV.leq rfl rfl) (Wanted.guard rfl rfl rfl) rfl rfl ?_
              refine TQ.pv (PV.pickT rfl rfl rfl) Wanted.none rfl rfl ?_
              refine TQ.nil ?_
              refine T.condT rfl (decide_eq_true (by omega)) ?_
              refine T.region ?_
              refine T.pv (PV.move rfl) Wanted.none rfl rfl ?_
              refine T.pv (PV.loadAll rfl (by first | exact .fro (by assumption) | exact .own (by repeat (first | exact List.Mem.head _ | apply List.Mem.tail | apply List.mem_append_right))) (by exact rfl)) Wanted.none rfl rfl ?_
              (refine T.buildSlice Wanted.none rfl rfl (by repeat (first | exact FillAll.nil | (apply FillAll.cons; (first | exact CellsR.one rfl | exact CellsR.agg); exact rfl))) (by exact rfl) (by exact rfl) ?_; intro b90)
              refine T.appendE [_, _] (lv := lv) Wanted.none rfl rfl rfl i5 (Src.cells (m := 1) (ys := encS s) (.own (by repeat (first | exact List.Mem.head _ | apply List.Mem.tail | apply List.mem_append_right))) rfl rfl) (one_encS s) (by omega) ?_
              intro v2 lv2 hv2 _
              refine T.pv (PV.assign rfl) Wanted.none rfl rfl ?_
              refine T.opsNil ?_
              refine T.blkEnd ?_
              refine T.region ?_
              refine T.pv (PV.add rfl rfl (by omega)) Wanted.none rfl rfl ?_
              refine T.pv (PV.move rfl) Wanted.none rfl rfl ?_
              refine T.opsNil ?_
              refine T.next ⟨i + 1, k, c ++ [s], v2, lv2⟩ ⟨by dsimp only; omega, k1, hnext, hres.symm, ?_⟩ (by dsimp only; omega) (by repeat (first | exact trivial | refine And.intro rfl ?_)) (by repeat (first | exact List.Sublist.slnil | exact List.nil_sublist _ | exact List.Sublist.refl _ | exact List.sublist_append_left _ [] | apply List.Sublist.cons_cons | apply List.Sublist.cons | refine List.Sublist.append_left ?_ _ | refine List.sublist_append_of_sublist_right ?_)) rfl
              show Vec 23 2 _ _ _ _
              rw [List.length_append, List.flatMap_append]; exact hv2
            · rw [decide_eq_false (fun h => hin h.2)] at hres
              refine T.seq ?_
              refine T.seq ?_
              refine T.regionQ (by kernel_rfl) ?_
              refine TQ.pv (PV.move rfl) Wanted.none rfl rfl ?_
              refine TQ.pv (PV.move rfl) Wanted.none rfl rfl ?_
              refine TQ.pv (PV.lenSl rfl) Wanted.none rfl rfl ?_
              refine TQ.pv (PV.lss rfl rfl) Wanted.none rfl rfl ?_
              refine TQ.pv (PV.move rfl) Wanted.none rfl rfl ?_
              refine TQ.setT (d := 63) rfl (by omega) ?_
              refine TQ.pv (PV.move rfl) (Wanted.guard rfl rfl rfl) rfl rfl ?_
              refine TQ.pv (PV.move rfl) (Wanted.guard rfl rfl rfl) rfl rfl ?_
              refine TQ.pv (PV.indexAddr rfl rfl (by omega)) (Wanted.guard rfl rfl rfl) rfl rfl ?_
              refine TQ.pv (PV.fieldAddr rfl) (Wanted.guard rfl rfl rfl) rfl rfl ?_
              refine TQ.pv (PV.loadSub rfl (by assumption) rfl) (Wanted.guard rfl rfl rfl) rfl rfl ?_
              refine TQ.pv (PV.fieldAddr rfl) (Wanted.guard rfl rfl rfl) rfl rfl ?_
              refine TQ.pv (PV.load1 rfl (by first | exact .fro (by assumption) | exact .own (by repeat (first | exact List.Mem.head _ | apply List.Mem.tail | apply List.mem_append_right))) rfl) (Wanted.guard rfl rfl rfl) rfl rfl ?_
              refine TQ.pv (PV.lss rfl rfl) (Wanted.guard rfl rfl rfl) rfl rfl ?_
              refine TQ.pv (PV.pickT rfl rfl rfl) Wanted.none rfl rfl ?_
              refine TQ.nil ?_
              refine T.condF rfl (decide_eq_false (by omega)) ?_
              refine T.exit rfl ?_
              refine T.seq ?_
              refine T.regionQ (by kernel_rfl) ?_
              refine TQ.pv (PV.move rfl) Wanted.none rfl rfl ?_
              refine TQ.pv (PV.move rfl) Wanted.none rfl rfl ?_
              refine TQ.pv (PV.lenSl rfl) Wanted.none rfl rfl ?_
              refine TQ.pv (PV.lss rfl rfl) Wanted.none rfl rfl ?_
              refine TQ.pv (PV.move rfl) Wanted.none rfl rfl ?_
              refine TQ.setT (d := 79) rfl (by omega) ?_
              refine TQ.pv (PV.move rfl) (Wanted.guard rfl rfl rfl) rfl rfl ?_
              refine TQ.pv (PV.move rfl) (Wanted.guard rfl rfl rfl) rfl rfl ?_
              refine TQ.pv (PV.indexAddr rfl rfl (by omega)) (Wanted.guard rfl rfl rfl) rfl rfl ?_
              refine TQ.pv (PV.loadSub0 rfl (by assumption)) (Wanted.guard rfl rfl rfl) rfl rfl ?_
              refine TQ.pv (PV.fieldAddr rfl) (Wanted.guard rfl rfl rfl) rfl rfl ?_
              refine TQ.pv (PV.load1 rfl (by first | exact .fro (by assumption) | exact .own (by repeat (first | exact List.Mem.head _ | apply List.Mem.tail | apply List.mem_append_right))) rfl) (Wanted.guard rfl rfl rfl) rfl rfl ?_
              refine TQ.pv (PV.leq rfl rfl) (Wanted.guard rfl rfl rfl) rfl rfl ?_
              refine TQ.pv (PV.pickT rfl rfl rfl) Wanted.none rfl rfl ?_
              refine TQ.nil ?_
              refine T.condF rfl (decide_eq_false (by omega)) ?_
              refine T.skip ?_
              refine T.blkEnd ?_
              refine T.region ?_
              refine T.pv (PV.add rfl rfl (by omega)) Wanted.none rfl rfl ?_
              refine T.pv (PV.move rfl) Wanted.none rfl rfl ?_
              refine T.opsNil ?_
              exact T.next ⟨i + 1, k, c, _, lv⟩ ⟨by dsimp only; omega, k1, hnext, by rw [hres]; simp, i5⟩ (by dsimp only; omega) (by repeat (first | exact trivial | refine And.intro rfl ?_)) (by repeat (first | exact List.Sublist.slnil | exact List.nil_sublist _ | exact List.Sublist.refl _ | exact List.sublist_append_left _ [] | apply List.Sublist.cons_cons | apply List.Sublist.cons | refine List.Sublist.append_left ?_ _ | refine List.sublist_append_of_sublist_right ?_)) rfl
        · have hd : ∀ t' ∈ nb.drop k, s.1 ≤ t'.1 := by
            intro t' ht'
            rw [List.drop_of_length_le (by omega)] at ht'; cases ht'
          have hco := containing_ok k2 hd hmb
          have hres := filter_snoc (p := inC nb) hs
          rw [hco, ← i4, decide_eq_false (fun h => hk h.1)] at hres
          refine T.seq ?_
          refine T.seq ?_
          refine T.regionQ (by kernel_rfl) ?_
          refine TQ.pv (PV.move rfl) Wanted.none rfl rfl ?_
          refine TQ.pv (PV.move rfl) Wanted.none rfl rfl ?_
          refine TQ.pv (PV.lenSl rfl) Wanted.none rfl rfl ?_
          refine TQ.pv (PV.lss rfl rfl) Wanted.none rfl rfl ?_
          refine TQ.pv (PV.move rfl) Wanted.none rfl rfl ?_
          refine TQ.setF (d := 63) rfl (by omega) ?_
          refine TQ.pass (Unwanted.guard rfl rfl rfl) rfl rfl ?_
          refine TQ.pass (Unwanted.guard rfl rfl rfl) rfl rfl ?_
          refine TQ.pass (Unwanted.guard rfl rfl rfl) rfl rfl ?_
          refine TQ.pass (Unwanted.guard rfl rfl rfl) rfl rfl ?_
          refine TQ.pass (Unwanted.guard rfl rfl rfl) rfl rfl ?_
          refine TQ.pass (Unwanted.guard rfl rfl rfl) rfl rfl ?_
          refine TQ.pass (Unwanted.guard rfl rfl rfl) rfl rfl ?_
          refine TQ.pass (Unwanted.guard rfl rfl rfl) rfl rfl ?_
          refine TQ.pv (PV.pickF rfl rfl rfl) Wanted.none rfl rfl ?_
          refine TQ.nil ?_
          refine T.condF rfl rfl ?_
          refine T.exit rfl ?_
          refine T.seq ?_
          refine T.regionQ (by kernel_rfl) ?_
          refine TQ.pv (PV.move rfl) Wanted.none rfl rfl ?_
          refine TQ.pv (PV.move rfl) Wanted.none rfl rfl ?_
          refine TQ.pv (PV.lenSl rfl) Wanted.none rfl rfl ?_
          refine TQ.pv (PV.lss rfl rfl) Wanted.none rfl rfl ?_
          refine TQ.pv (PV.move rfl) Wanted.none rfl rfl ?_
          refine TQ.setF (d := 79) rfl (by omega) ?_
          refine TQ.pass (Unwanted.guard rfl rfl rfl) rfl rfl ?_
          refine TQ.pass (Unwanted.guard rfl rfl rfl) rfl rfl ?_
          refine TQ.pass (Unwanted.guard rfl rfl rfl) rfl rfl ?_
          refine TQ.pass (Unwanted.guard rfl rfl rfl) rfl rfl ?_
          refine TQ.pass (Unwanted.guard rfl rfl rfl) rfl rfl ?_
          refine TQ.pass (Unwanted.guard rfl rfl rfl) rfl rfl ?_
          refine TQ.pass (Unwanted.guard rfl rfl rfl) rfl rfl ?_
          refine TQ.pv (PV.pickF rfl rfl rfl) Wanted.none rfl rfl ?_
          refine TQ.nil ?_
          refine T.condF rfl rfl ?_
          refine T.skip ?_
          refine T.blkEnd ?_
          refine T.region ?_
          refine T.pv (PV.add rfl rfl (by omega)) Wanted.none rfl rfl ?_
          refine T.pv (PV.move rfl) Wanted.none rfl rfl ?_
          refine T.opsNil ?_
          exact T.next ⟨i + 1, k, c, _, lv⟩ ⟨by dsimp only; omega, k1, hnext, by rw [hres]; simp, i5⟩ (by dsimp only; omega) (by repeat (first | exact trivial | refine And.intro rfl ?_)) (by repeat (first | exact List.Sublist.slnil | exact List.nil_sublist _ | exact List.Sublist.refl _ | exact List.sublist_append_left _ [] | apply List.Sublist.cons_cons | apply List.Sublist.cons | refine List.Sublist.append_left ?_ _ | refine List.sublist_append_of_sublist_right ?_)) rfl
      · rw [List.take_of_length_le (by omega)] at i4
        refine T.seq ?_
        refine T.region ?_
        refine T.pv (PV.lss rfl rfl) Wanted.none rfl rfl ?_
        refine T.opsNil ?_
        refine T.seq ?_
        refine T.condF rfl (decide_eq_false (by omega)) ?_
        refine T.exit rfl ?_
        refine T.seq ?_
        refine T.region ?_
        refine T.pv (PV.move rfl) Wanted.none rfl rfl ?_
        refine T.pv (PV.assign rfl) Wanted.none rfl rfl ?_
        refine T.pv (PV.assign rfl) Wanted.none rfl rfl ?_
        refine T.opsNil ?_
        refine T.retF (Vec.freezeLv (l' := []) i5 (by rw [List.append_nil]; exact (by repeat (first | exact List.Sublist.slnil | exact List.nil_sublist _ | exact List.Sublist.refl _ | exact List.sublist_append_left _ [] | apply List.Sublist.cons_cons | apply List.Sublist.cons | refine List.Sublist.append_left ?_ _ | refine List.sublist_append_of_sublist_right ?_))) fun H' _ hsl => Lv.fin (RV.tmp2 rfl rfl rfl) ?_)
        rw [← i4]; exact ResL.ok rfl hsl
  · refine T.callV Wanted.none rfl rfl (check2 hH1 hu1 hv1 ha hb) ?_
    refine T.pv (PV.assign rfl) Wanted.none rfl rfl ?_
    refine T.opsNil ?_
    refine T.seq ?_
    refine T.region ?_
    refine T.pv (PV.move rfl) Wanted.none rfl rfl ?_
    refine T.pv (PV.neq rfl rfl) Wanted.none rfl rfl ?_
    refine T.opsNil ?_
    refine T.condT rfl (decide_eq_true (by omega)) ?_
    refine T.seq ?_
    refine T.region ?_
    refine T.pv (PV.move rfl) Wanted.none rfl rfl ?_
    refine T.pv (PV.assign rfl) Wanted.none rfl rfl ?_
    refine T.pv (PV.assign rfl) Wanted.none rfl rfl ?_
    refine T.opsNil ?_
    exact T.retF (Lv.fin (RV.tmp2 rfl rfl rfl) (ResL.err hc))
end Go.Proofs.Ytapakgncdmmmaaa
