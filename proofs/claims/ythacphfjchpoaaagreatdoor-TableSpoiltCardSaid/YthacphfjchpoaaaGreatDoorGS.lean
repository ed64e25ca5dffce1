/- table: made groups that are new.
   table: what was made is taken up again: rows and their keys.
   table: the statement Spoilt. -/
import Derived.Test.YthacphfjchpoaaaGreatDoorGR
import Derived.Test.YthacphfjchpoaaaGreatDoorFTZa
import Derived.Test.YthacphfjchpoaaaGreatDoorFU3a
namespace Go.Proofs.YthacphfjchpoaaaGreatDoor
open Go.RowKit

set_option maxHeartbeats 2000000 in
theorem groups_fnN (bt : Nat) (t : Tp) (H : Hp) (ht : t.ok H) :
    FnW Tryz.prog 12 #[.pointer (some ⟨bt, 0, none⟩)] H [Tp.blk bt t] (fun u H' l' => H.le H' ∧ ∃ gs t' lv, GpL H' u gs ∧ (Vec 57 6 u lv gs.length (gs.flatMap encGp) ∧ ∀ p ∈ lv, H' p.1 = some p.2 ∧ H p.1 = none) ∧ (1 ≤ gs.length ∧ gs.length ≤ 3) ∧ (∀ g ∈ gs, GpG g) ∧ t'.ok H' ∧ l' = [Tp.blk bt t']) := by
  refine FnW.of_T (vs := [.pointer (some ⟨bt, 0, none⟩)]) Tryz.func12 rfl rfl fun w => ?_; refine zs3 ?_; refine yq56 ?_; (refine T.callW Wanted.none rfl rfl (group_fn _ _ _ ?_) zq1 ?_; (focus assumption); rintro _ _ _ _ ⟨rfl, g6, t6, rfl, hg6, ht6, rfl⟩; unfold gpV); (refine T.buildSlice Wanted.none rfl rfl zq11 (by exact rfl) (by exact rfl) ?_; intro b7); refine yq127 ?_; (refine T.callW Wanted.none rfl rfl (next_fn _ _ _ _ ?_ ?_) zq1 ?_; (focus assumption); (focus omega); rintro _ _ _ _ ⟨rfl, n9, t9, rfl, hn9, ht9, rfl⟩); refine yq0 ?_; refine T.block ?_
  obtain ⟨k0, hk0⟩ : ∃ k : Nat, (k : Int) = n9 := ⟨n9.toNat, by omega⟩
  rw [← hk0]
  refine T.loopK [(0, Value.pointer (some { block := bt, off := 0 }))] zq8 (γ := GrG) (fun g => g.t.ok H ∧ RowV 57 encGp 6 g.v g.lv g.L ∧ (∀ x ∈ g.L, GpG x) ∧ 1 ≤ g.L.length ∧ g.L.length + g.k ≤ 3) (fun g => [(4, .int .i64 (g.k : Int)), (3, g.v)]) (fun g => [Tp.blk bt g.t] ++ g.lv) (fun _ => H) (fun g => g.k) ⟨k0, t9, .slice (some ⟨b7, 0, none⟩) 1 1, [(b7, _)], [g6]⟩ ⟨ht9, Vec.lit 1 rfl (by decide), by intro x hx; rw [List.mem_singleton] at hx; subst hx; exact hg6, by simp, by simp; omega⟩ zq8 (by repeat (first | exact Sel.refl _ | exact Sel.nil | (refine Sel.cons zq1 ?_) | (refine Sel.app zq1 ?_) | exact Sel.one zq1)) rfl ?_
  rintro ⟨k, t2, v, lv, L⟩ ⟨g1, g2, g3, g4, g5⟩
  dsimp only at g1 g2 g3 g4 g5 ⊢
  obtain ⟨adv, capv, rfl⟩ := g2.val
  by_cases hk : 0 < k
  · refine yq158 ?_; refine so ?_; refine yq33 ?_; refine yq81 ?_; refine sm ?_; (refine T.callW Wanted.none rfl rfl (group_fn _ _ _ ?_) zq1 ?_; (focus assumption); rintro _ _ _ _ ⟨rfl, g16, t16, rfl, hg16, ht16, rfl⟩; unfold gpV); (refine T.buildSlice Wanted.none rfl rfl zq11 (by exact rfl) (by exact rfl) ?_; intro b17); (refine T.appendP (lv := lv) Wanted.none rfl rfl rfl g2 (Src.cells (m := 1) (ys := encGp g16) (.own zq2) rfl rfl) (one_encGp _) (by omega) zq1 ?_; intro v18 lv18 hv18 _; obtain ⟨ad18, cap18, rfl⟩ := hv18.val); refine yq0 ?_; refine yq35 ?_; refine sm ?_; refine yq77 ?_
    rw [show (k : Int) - 1 = ((k - 1 : Nat) : Int) by omega]
    refine T.nextP ⟨k - 1, t16, _, lv18, L ++ [g16]⟩ ⟨ht16, RowV.snoc hv18, fun x hx => ?_, by simp, by dsimp only; rw [List.length_append, List.length_singleton]; omega⟩ (by dsimp only; omega) zq8 (by repeat (first | exact Sel.refl _ | exact Sel.nil | (refine Sel.cons zq1 ?_) | (refine Sel.app zq1 ?_) | exact Sel.one zq1)) rfl
    rcases List.mem_append.1 hx with hx | hx
    · exact g3 x hx
    · rw [List.mem_singleton] at hx; subst hx; exact hg16
  · refine yq158 ?_; refine so ?_; refine yq16 ?_; refine yq140 ?_; refine T.freezeN (lv := lv) g2 zq1 ?_
    intro H3 hle3 hs3 hn3
    exact T.retW (Lv.finW [Tp.blk bt t2] zq4 (RV.tmp rfl rfl) ⟨hle3, L, t2, lv, hs3, ⟨g2, hn3⟩, by omega, g3, g1.mono hle3, rfl⟩)
end Go.Proofs.YthacphfjchpoaaaGreatDoor
namespace Go.Proofs.YthacphfjchpoaaaGreatDoor
open Go.RowKit

theorem Vec.slr {H : Hp} {el sz : Nat} {v : Value} {lv : List (Nat × Obj)} {n : Nat} {xs : List Value} (hv : Vec el sz v lv n xs) (h : ∀ p ∈ lv, H p.1 = some p.2) : SlR H sz v n xs := by
  obtain ⟨hx, ⟨⟨ad, rfl⟩, rfl, rfl⟩ | ⟨b, cap, cs, rfl, rfl, h1, h2, h3, h4⟩⟩ := hv
  · exact ⟨hx, .inl ⟨⟨_, _, rfl⟩, rfl⟩⟩
  · exact ⟨hx, .inr ⟨b, 0, cap, cs, _, _, rfl, h _ (List.mem_singleton.2 rfl), by rw [List.drop_zero]; exact h4, h1⟩⟩
theorem RwN.keep {H H4 H5 : Hp} {v : Value} {A : List Rw} (h : RwN H H4 v A) (he : ∀ b, H b = none → H5 b = H4 b) : RwN H H5 v A :=
  ⟨h.rows.imp fun _ ⟨h1, h2⟩ => ⟨h1, fun p hp => ⟨(he _ (h2 p hp).2.1).trans (h2 p hp).1, (h2 p hp).2⟩⟩, fun r hr => (h.keys r hr).imp fun _ ⟨h1, h2, h3⟩ => ⟨h1, (he _ h3).trans h2, h3⟩, h.nd⟩
/-- keys that are few and short -/
def KsOk (ks : List ByteArray) : Prop := ks.length ≤ 100 ∧ ∀ k ∈ ks, k.size ≤ 1000000
theorem KsOk.rw {H : Hp} {r : Rw} (h : KsOk r.ks) (hs : StL H r.kv r.ks) : RwOk H r := by
  refine ⟨hs, by have := h.1; omega, ?_⟩
  have h1 := joinL_bound _ h.2
  have h2 : r.ks.length * 1000100 ≤ 100 * 1000100 := Nat.mul_le_mul_right _ h.1
  omega
theorem RwN.rwL {H H' : Hp} {v : Value} {A : List Rw} (h : RwN H H' v A) (hb : ∀ r ∈ A, KsOk r.ks) : RwL H' v A := by
  obtain ⟨lv, h1, h2⟩ := h.rows
  refine ⟨h1.slr fun p hp => (h2 p hp).1, fun r hr => (hb r hr).rw ?_⟩
  obtain ⟨o, k1, k2, k3⟩ := h.keys r hr
  exact k1.slr fun p hp => by rw [List.mem_singleton] at hp; subst hp; exact k2
theorem RwL.setR {H : Hp} {v : Value} {A : List Rw} {i : Nat} {r' : Rw} (hs : SlR H 2 v A.length ((A.set i r').flatMap encRw)) (ho : ∀ j y, j ≠ i → A[j]? = some y → RwOk H y) (hr : RwOk H r') : RwL H v (A.set i r') := by
  refine ⟨by rw [List.length_set]; exact hs, fun y hy => ?_⟩
  obtain ⟨j, hj, rfl⟩ := List.mem_iff_getElem.1 hy
  rw [List.length_set] at hj
  by_cases e : j = i
  · subst e; rw [List.getElem_set_self]; exact hr
  · rw [List.getElem_set_ne (Ne.symm e)]; exact ho j _ e (List.getElem?_eq_getElem _)
theorem set_all {α : Type} {p : α → Prop} {A : List α} {i : Nat} {r : α} (h : ∀ x ∈ A, p x) (hr : p r) : ∀ x ∈ A.set i r, p x := fun x hx => by
  rcases List.mem_or_eq_of_mem_set hx with h1 | rfl
  · exact h x h1
  · exact hr
section
variable {P : Program} {X : Cx} {e : Env} {l : List (Nat × Obj)} {H : Hp} {D : List Deferred} {k : List It}
theorem T.thawVec {el sz : Nat} {v : Value} {lv : List (Nat × Obj)} {n : Nat} {xs : List Value} (hv : Vec el sz v lv n xs) (hlv : ∀ p ∈ lv, H p.1 = some p.2 ∧ X.H0 p.1 = none)
    (h : ∀ H', (∀ b, (∀ p ∈ lv, b ≠ p.1) → H' b = H b) → (∀ A : Hp, A.le H → (∀ p ∈ lv, A p.1 = none) → A.le H') → T P X e (lv ++ l) H' D k) : T P X e l H D k := by
  obtain ⟨hx, ⟨_, rfl, _⟩ | ⟨b, cap, cs, _, rfl, _⟩⟩ := hv
  · exact h H (fun _ _ => rfl) (fun A hA _ => hA)
  · obtain ⟨h1, h2⟩ := hlv _ (List.mem_singleton.2 rfl)
    exact T.thaw h2 h1 (h _ (fun c hc => Hp.less_ne (hc _ (List.mem_singleton.2 rfl))) (fun A hA hn => Hp.less_le hA (hn _ (List.mem_singleton.2 rfl))))
theorem T.thawRow {B : Hp} {v : Value} {A : List Rw} {i : Nat} {r : Rw} (hB : X.H0.le B) (hN : RwN B H v A) (hi : A[i]? = some r) (hb : ∀ y ∈ A, KsOk y.ks)
    (h : ∀ H' lvr lvk, (∀ C : Hp, C.le H → C.le B → C.le H') → Vec 52 2 v lvr A.length (A.flatMap encRw) → Vec 9 1 r.kv lvk r.ks.length (r.ks.flatMap encT) → (∀ j y, j ≠ i → A[j]? = some y → RwOk H' y) → T P X e (lvk ++ (lvr ++ l)) H' D k) : T P X e l H D k := by
  obtain ⟨lvr, hvr, hlr⟩ := hN.rows
  have hr := List.mem_of_getElem? hi
  obtain ⟨o, hk, hko, hkn⟩ := hN.keys r hr
  refine T.thawVec hvr (fun p hp => ⟨(hlr p hp).1, Hp.le_none hB (hlr p hp).2.1⟩) ?_
  intro H6 e6 l6
  have f6 : ∀ y ∈ A, H6 (blkV y.kv) = H (blkV y.kv) := fun y hy => e6 _ fun p hp he => (hlr p hp).2.2 (List.mem_map.2 ⟨y, hy, he⟩)
  refine T.thawVec hk (fun p hp => ?_) ?_
  · rw [List.mem_singleton] at hp; subst hp; exact ⟨(f6 r hr).trans hko, Hp.le_none hB hkn⟩
  intro H7 e7 l7
  refine h H7 lvr _ (fun C h1 h2 => l7 C (l6 C h1 fun p hp => Hp.le_none h2 (hlr p hp).2.1) fun p hp => ?_) hvr hk fun j y hj hy => ?_
  · rw [List.mem_singleton] at hp; subst hp; exact Hp.le_none h2 hkn
  · have hym := List.mem_of_getElem? hy
    obtain ⟨oy, k1, k2, k3⟩ := hN.keys y hym
    refine (hb y hym).rw (k1.slr fun p hp => ?_)
    rw [List.mem_singleton] at hp; subst hp
    refine (e7 _ fun p hp he => ?_).trans ((f6 y hym).trans k2)
    rw [List.mem_singleton] at hp; subst hp
    have hjl := (List.getElem?_eq_some_iff.1 hy).1
    have hil := (List.getElem?_eq_some_iff.1 hi).1
    have hp := List.pairwise_iff_getElem.1 hN.nd
    rcases Nat.lt_or_gt_of_ne hj with h | h
    · exact hp j i (by rw [List.length_map]; exact hjl) (by rw [List.length_map]; exact hil) h (by rw [List.getElem_map, List.getElem_map, (List.getElem?_eq_some_iff.1 hy).2, (List.getElem?_eq_some_iff.1 hi).2]; exact he)
    · exact hp i j (by rw [List.length_map]; exact hil) (by rw [List.length_map]; exact hjl) h (by rw [List.getElem_map, List.getElem_map, (List.getElem?_eq_some_iff.1 hy).2, (List.getElem?_eq_some_iff.1 hi).2]; exact he.symm)
end
end Go.Proofs.YthacphfjchpoaaaGreatDoor
namespace Go.Proofs.YthacphfjchpoaaaGreatDoor
open Go.RowKit

theorem T.cut2Hq {P : Program} {X : Cx} {e : Env} {l : List (Nat × Obj)} {H : Hp} {D : List Deferred} {k : List It} {a b : It} {γ : Type} (ek : Env) (C : γ → Prop) (ch : γ → Env) (lg : γ → List (Nat × Obj)) (Hg : γ → Hp) (K : ∀ g, C g → T P X (ch g ++ ek) (lg g) (Hg g) D k)
    (h : (∀ g e' l' H', C g → Env.Sub (ch g ++ ek) e' → Sel l' (lg g) → Hg g = H' → T P X e' l' H' D k) → T P X e l H D (a :: b :: k)) : T P X e l H D (a :: b :: k) :=
  h fun g _ _ _ hc he hl hH => hH ▸ T.sel hl (T.weak he (List.Sublist.refl _) (K g hc))
theorem keys_made {c : Cp} {H : Hp} {gs : List Gp} {L : List Mt} (hc : CpL H c) (hg : CpG c) (hfit : ∀ m ∈ L, fits c.tx 1 m) (hl : 1 ≤ gs.length ∧ gs.length ≤ 3) {A : List Rw} (hA : A.map rwK = countR c [bs [120]] L gs) : ∀ r ∈ A, (1 ≤ r.ks.length ∧ r.ks.length ≤ 3) ∧ ∀ k ∈ r.ks, k.size ≤ 1000000 := by
  intro r hr
  have h1 : rwK r ∈ A.map rwK := List.mem_map_of_mem hr
  rw [hA] at h1
  obtain ⟨y, hy, he⟩ := (dk_mem _ (rwK r).1).1 ((sum_mem _ (rwK r)).1 h1).1
  have h2 := (row_lens (gs := gs) hg hfit y hy).1
  obtain ⟨m, hm, rfl⟩ := List.mem_map.1 hy
  have h3 : r.ks = keysO c [bs [120]] m gs := he.symm
  have h4 : (keysO c [bs [120]] m gs).length = gs.length := h2
  rw [h3]
  exact ⟨by omega, keysO_size hc (wideG hg)⟩
theorem ones_countR {c : Cp} {gs : List Gp} {L : List Mt} (hl : L.length ≤ 1000) {A : List Rw} (hA : A.map rwK = countR c [bs [120]] L gs) : ∀ r ∈ A, r.n ≤ 1099511627776 :=
  ones_small (fun r hr => by obtain ⟨m, _, rfl⟩ := List.mem_map.1 hr; rfl) (by rw [List.length_map]; exact hl) hA
theorem flatSet {α : Type} {enc : α → List Value} : ∀ {A : List α} {i : Nat} {x x' : α}, A[i]? = some x → enc x' = enc x → (A.set i x').flatMap enc = A.flatMap enc
  | [], _, _, _, h, _ => by cases h
  | a :: A, 0, x, x', h, he => by
    rw [List.getElem?_cons_zero, Option.some.injEq] at h
    subst h
    rw [List.set_cons_zero, List.flatMap_cons, List.flatMap_cons, he]
  | a :: A, i + 1, x, x', h, he => by
    rw [List.getElem?_cons_succ] at h
    rw [List.set_cons_succ, List.flatMap_cons, List.flatMap_cons, flatSet h he]
theorem RwOk.allR {H : Hp} {A : List Rw} {i : Nat} {r : Rw} (hi : A[i]? = some r) (ho : ∀ j y, j ≠ i → A[j]? = some y → RwOk H y) (hr : RwOk H r) : ∀ y ∈ A, RwOk H y := fun y hy => by
  obtain ⟨j, hj, rfl⟩ := List.mem_iff_getElem.1 hy
  by_cases e : j = i
  · subst e; rw [(List.getElem?_eq_some_iff.1 hi).2]; exact hr
  · exact ho j _ e (List.getElem?_eq_getElem _)
theorem lit3s (a b c : ByteArray) (m : Nat) (h : (m : Int) < 3) (ha : a.size ≤ 1000) (hb : b.size ≤ 1000) (hc : c.size ≤ 1000) : ∃ s : ByteArray, s.size ≤ 1000000 ∧ ([.string a, .string b, .string c] : List Value)[0 + ((m : Nat) : Int).toNat * 1]? = some (.string s) := by
  have h : m = 0 ∨ m = 1 ∨ m = 2 := by omega
  rcases h with rfl | rfl | rfl
  · exact ⟨a, by omega, rfl⟩
  · exact ⟨b, by omega, rfl⟩
  · exact ⟨c, by omega, rfl⟩
theorem i64_rangeW {i : Int} (h : (Lit.int .i64 i).wf = true) : -9223372036854775808 ≤ i ∧ i ≤ 9223372036854775807 := by
  simp only [Lit.wf, Bool.and_eq_true, decide_eq_true_eq] at h
  exact h
theorem CpG.wide {c : Cp} (h : CpG c) : CpW c := ⟨fun t ht => by rw [h.tk t ht, h.att]; rfl, fun t ht => chain_mem h.tx ht⟩
structure SpG where
  H : Hp
  v : Value
  A : List Rw
structure SpK where
  v : Value
  lv : List (Nat × Obj)
  gs : List Gp
theorem mod_at (x n : Int) (hx : -9223372036854775808 ≤ x ∧ x ≤ 9223372036854775807) (hn : 1 ≤ n ∧ n ≤ 1000000) : ∃ j : Nat, (j : Int) < n ∧ ∀ H, Fn Tryz.prog 21 #[.int .i64 x, .int .i64 n] H (fun u _ => u = .int .i64 (j : Int)) := by
  have h1 := Int.emod_nonneg x (b := n) (by omega)
  have h2 := Int.emod_lt_of_pos x (b := n) (by omega)
  refine ⟨(x % n).toNat, by omega, fun H => ?_⟩
  rw [Int.toNat_of_nonneg h1]
  exact mod_fn x n H hx hn
theorem tdiv_in {x n : Int} (hn : 2 ≤ n) (hx : -9223372036854775808 ≤ x ∧ x ≤ 9223372036854775807) : -9223372036854775808 ≤ x.tdiv n ∧ x.tdiv n ≤ 9223372036854775807 := by
  have h1 : (x.tdiv n).natAbs ≤ x.natAbs / 2 := by rw [Int.natAbs_tdiv]; exact Nat.div_le_div_left (by omega) (by omega)
  omega
set_option maxHeartbeats 8000000 in
theorem spoilt_law (l n : List Int) (how : Int) (v u : Value) (H : Hp) (hT : PowT H) (hv : InL H v l) (hl : l.length ≤ 9223372036854775807) (hr : I64 l) (hv2 : InL H u n) (hl2 : n.length ≤ 9223372036854775807) (hr2 : I64 n) (hhow : -9223372036854775808 ≤ how ∧ how ≤ 9223372036854775807) :
    Fn Tryz.prog 6 #[v, u, .int .i64 how] H (fun u _ => u = .bool true) := by
  have d8 := tdiv_in (n := 8) (by omega) hhow
  have d56 := tdiv_in (n := 56) (by omega) hhow
  have d9 := tdiv_in (n := 9) (by omega) hhow
  refine Fn.of_T (vs := [v, u, .int .i64 how]) Tryz.func6 rfl rfl fun w => ?_; refine zs3 ?_; refine yq56 ?_; refine T.callW (l0 := []) Wanted.none rfl rfl (new_fn l v H hv hl hr) zq1 ?_
  rintro _ _ _ _ ⟨rfl, bt, t, rfl, ht, rfl⟩
  refine yq56 ?_; refine T.callW Wanted.none rfl rfl (corpus_fnN bt t 6 H ht (by omega)) zq1 ?_
  rintro _ H1 _ hle1 ⟨t1, c, rfl, ht1, hc, hg, hb, hnm, rfl⟩
  have hw := wideG hg
  have hmt := matches_fn bt t1 c 1 8 H1 ht1 hc hg hb (by omega) (by omega)
  rw [show ((1 : Nat) : Int) = 1 from rfl] at hmt
  unfold cpV at hmt ⊢
  refine sy fun b8 => ?_; (refine T.storeA Wanted.none rfl rfl (cp_one hc) (by exact rfl) zq14 zq13 ?_); refine zs1 ?_; refine yq138 ?_; refine T.callW Wanted.none rfl rfl hmt zq1 ?_
  rintro _ H2 _ hle2 ⟨t2, L, ht2, hL, hLn, hfit, rfl⟩
  obtain ⟨aL, cL, rfl⟩ := hL.1.len
  refine sm ?_; refine T.callW (l0 := []) Wanted.none rfl rfl (new_fn n u H2 (hv2.mono (hle1.trans hle2)) hl2 hr2) zq1 ?_
  rintro _ _ _ _ ⟨rfl, bt2, t3, rfl, ht3, rfl⟩
  skip
  refine T.callW Wanted.none rfl rfl (groups_fnN bt2 t3 H2 ht3) zq1 ?_
  rintro _ H3 _ hle3 ⟨_, gs, t4, lvg, hgs, ⟨hvg, hgn⟩, hgl, hgg, ht4, rfl⟩
  obtain ⟨bg, cg, rfl⟩ := hvg.ptr (by omega)
  have hc2 := hc.mono hle2
  have hH2 := hle1.trans hle2
  have hT2 := hT.mono hH2
  have hls : ∀ m ∈ L, m.ls.length ≤ 1000 := fun m hm => by have := (hfit m hm).2.1; omega
  have hLl : L.length ≤ 1000 := by omega
  have hce := count_made hg hgg (by omega : 1 ≤ gs.length ∧ gs.length ≤ 4) hfit
  have cr := fun H' (h : H3.le H') vl (hl : StL H' vl [bs [120]]) => count_refN c [bs [120]] vl L (.slice aL L.length cL) gs (.slice (some ⟨bg, 0, none⟩) gs.length cg) H' (hc2.mono (hle3.trans h)) hw hl (by simp) (hL.mono (hle3.trans h)) hLl hls (SlR.mono hgs h) (by omega)
  simp only [hce] at cr
  unfold cpV at cr
  refine yq55 ?_
  (repeat refine sq ?_)
  refine T.cutHq (γ := SpG) [(10, Value.slice (some { block := bg, off := 0 }) gs.length cg), (9, Value.slice aL L.length cL), (8, Value.pointer (some { block := b8, off := 0 })), (2, Value.int IntKind.i64 how)] (fun g => H3.le g.H ∧ RwN H3 g.H g.v g.A ∧ g.A.map rwK = countR c [bs [120]] L gs) (fun g => [(11, g.v)]) (fun _ => [(b8, .cells #[c.va, c.vt, c.vx, c.vr, c.vn, c.vh, c.vs] 32 (0, 0))]) (fun g => g.H) ?_ fun K => ?_
  rotate_left
  · refine T.regionO [(b8, .cells #[c.va, c.vt, c.vx, c.vr, c.vn, c.vh, c.vs] 32 (0, 0))] (by kernel_rfl) ?_; refine yq42 ?_; refine yq78 ?_; (refine T.call Wanted.none rfl rfl (labels35_fn _) ?_; intro v32 H32 hle32 hv32; obtain ⟨ad32, cap32, rfl⟩ := hv32.len); refine yq135 ?_; (refine T.call Wanted.none rfl rfl (cr _ zq21 _ (SlR.mono hv32 zq21)) ?_; rintro _ H35 h35 ⟨_, A1, rfl, hA1, qa1, qb1, qn1⟩; obtain ⟨aa1, ca1, rfl⟩ := hA1.1.len); refine yq104 ?_; refine yq47 ?_; refine yq50 ?_; refine TO.done (by kernel_rfl) zq4 zq19 ?_; (exact K ⟨_, _, A1⟩ _ _ _ ⟨zq21, (qn1 trivial).old zq21, qa1 trivial⟩ zq8 (by repeat (first | exact Sel.refl _ | exact Sel.nil | (refine Sel.cons zq1 ?_) | (refine Sel.app zq1 ?_) | exact Sel.one zq1)) rfl)
  rintro ⟨H4, va, A⟩ ⟨h34, hN, hAe⟩
  dsimp only at h34 hN hAe ⊢
  refine T.thawVec hvg (fun p hp => ⟨h34 _ _ (hgn p hp).1, Hp.le_none hH2 (hgn p hp).2⟩) ?_
  intro H5 e5 l5
  have h25 : H2.le H5 := l5 H2 (hle3.trans h34) fun p hp => (hgn p hp).2
  have hN5 : RwN H3 H5 va A := hN.keep fun b hb => e5 b fun p hp he => by rw [he, (hgn p hp).1] at hb; cases hb
  have hkm := keys_made hc hg hfit hgl hAe
  have hn1 := ones_countR hLl hAe
  have hAl : A.length ≤ 900 := by
    have h1 := congrArg List.length hAe
    rw [List.length_map] at h1
    have h2 := countR_len c [bs [120]] L gs
    omega
  clear hAe hN
  obtain ⟨q, hq, m8⟩ := mod_at (how.tdiv 8) 7 d8 (by omega)
  obtain ⟨q4, hq4, m4⟩ := mod_at how 4 hhow (by omega)
  obtain ⟨q6, hq6, m6⟩ := mod_at how 6 hhow (by omega)
  obtain ⟨q3, hq3, m3⟩ := mod_at ((q : Int) - 2) 3 (by omega) (by omega)
  obtain ⟨j, hj, m9⟩ := mod_at (how.tdiv 9) gs.length d9 (by omega)
  have hks : ∀ r ∈ A, KsOk r.ks := fun r hr => ⟨by have := (hkm r hr).1; omega, (hkm r hr).2⟩
  obtain ⟨aA, cA, rfl⟩ := (hN5.rwL hks).1.len
  refine yq2 ?_; refine sv (PV.quo rfl rfl (by omega) (by omega)) ?_; (refine T.callX Wanted.none rfl rfl (m8 _) ?_; rintro _ rfl); refine yq77 ?_; refine yq176 ?_; refine so ?_; refine T.cutHq (γ := SpG) [(13, Value.int IntKind.i64 ((↑q : Int) - 2)), (10, Value.slice (some { block := bg, off := 0 }) gs.length cg), (9, Value.slice aL L.length cL), (8, Value.pointer (some { block := b8, off := 0 })), (2, Value.int IntKind.i64 how)] (fun g => H2.le g.H ∧ RwL g.H g.v g.A ∧ g.A.length ≤ 1000 ∧ ∀ r ∈ g.A, r.n ≤ 1099511627776) (fun g => [(11, g.v)]) (fun _ => lvg ++ [(b8, .cells #[c.va, c.vt, c.vx, c.vr, c.vn, c.vh, c.vs] 32 (0, 0))]) (fun g => g.H) ?_ fun K => ?_
  rotate_left
  · by_cases hA0 : A.length = 0
    · refine yq22 ?_
      exact K ⟨H5, _, A⟩ _ _ _ ⟨h25, hN5.rwL hks, by dsimp only; omega, hn1⟩ zq8 (by repeat (first | exact Sel.refl _ | exact Sel.nil | (refine Sel.cons zq1 ?_) | (refine Sel.app zq1 ?_) | exact Sel.one zq1)) rfl
    · obtain ⟨i, hi, m56⟩ := mod_at (how.tdiv 56) A.length d56 (by omega)
      have hiA : i < A.length := by omega
      obtain ⟨⟨kv, ks, rn⟩, hir⟩ : ∃ r, A[i]? = some r := ⟨_, List.getElem?_eq_getElem hiA⟩
      have hkr := hkm _ (List.mem_of_getElem? hir)
      have hkk := hks _ (List.mem_of_getElem? hir)
      have hnr := hn1 _ (List.mem_of_getElem? hir)
      have hAok := (hN5.rwL hks).2
      obtain ⟨lv5, hv5, -⟩ := hN5.rows
      obtain ⟨bA, cA', hbA⟩ := hv5.ptr (by omega)
      injection hbA with e1 e2 e3
      subst e1 e3
      clear hv5 lv5
      refine T.thawRow (hH2.trans hle3) hN5 hir hks ?_
      intro H7 lvr lvk l7 hvr hvk ho
      dsimp only at hvk hkr hkk hnr
      obtain ⟨bk, ck, rfl⟩ := hvk.ptr (by omega)
      have h27 : H2.le H7 := l7 H2 h25 hle3
      have hg0 : (A.flatMap encRw)[0 + ((i : Nat) : Int).toNat * 2 + 0]? = some (.slice (some ⟨bk, 0, none⟩) ks.length ck) := rowGet encRw_len hir (f := 0) rfl
      refine sc rfl (by omega) ?_; refine yq137 ?_; refine sv (PV.quo rfl rfl (by omega) (by omega)) ?_; refine yq83 ?_; (refine T.callX Wanted.none rfl rfl (m56 _) ?_; rintro _ rfl); refine sv (PV.indexAddr rfl rfl (by omega)) ?_; refine yq56 ?_; (refine T.callX Wanted.none rfl rfl (m4 _) ?_; rintro _ rfl); refine yq32 ?_; refine yq44 ?_
      rcases (by omega : q4 = 0 ∨ q4 = 1 ∨ q4 = 2 ∨ q4 = 3) with rfl | rfl | rfl | rfl
      · refine T.condT rfl rfl ?_; refine yq81 ?_; refine sm ?_; refine sv (PV.nilCheck rfl) ?_; refine sf ?_; (refine T.storeVecP (lv := lvr) Wanted.none rfl rfl rfl hvr (rowLt (f := 1) encRw_len hiA (by omega)) zq1 ?_; intro lv0 hv0); refine so ?_; refine T.blkEnd ?_
        rw [rowSet encRw_len hir (by omega) (x' := ⟨.slice (some ⟨bk, 0, none⟩) ks.length ck, ks, (q : Int) - 2⟩) rfl] at hv0
        refine T.freezeP (lv := lv0) hv0 zq1 ?_
        intro H8 h8 s8
        refine T.freezeP (lv := lvk) hvk zq1 ?_
        intro H9 h9 s9
        exact K ⟨H9, _, A.set i ⟨.slice (some ⟨bk, 0, none⟩) ks.length ck, ks, (q : Int) - 2⟩⟩ _ _ _ ⟨h27.trans (h8.trans h9), RwL.setR (s8.mono h9) (fun j y hj hy => (ho j y hj hy).mono (h8.trans h9)) (KsOk.rw (r := ⟨_, ks, _⟩) hkk s9), by dsimp only; rw [List.length_set]; omega, set_all hn1 (by dsimp only; omega)⟩ zq8 (by repeat (first | exact Sel.refl _ | exact Sel.nil | (refine Sel.cons zq1 ?_) | (refine Sel.app zq1 ?_) | exact Sel.one zq1)) rfl
      · refine yq187 ?_; refine yq81 ?_; refine sm ?_; refine sv (PV.nilCheck rfl) ?_; refine sf ?_; refine sv (PV.loadVec rfl (by assumption) zq4 (by assumption)) ?_; (refine T.buildSlice Wanted.none rfl rfl zq11 (by exact rfl) (by exact rfl) ?_; intro b67); (refine T.appendP (lv := lvk) Wanted.none rfl rfl rfl hvk (Src.cells (m := 1) (ys := [.string (bs [122])]) (.own zq2) rfl rfl) (by intro v hv; simp only [List.mem_cons, List.not_mem_nil, or_false] at hv; subst hv; rfl) (by omega) zq1 ?_; intro v68 lv68 hv68 _; obtain ⟨ad68, cap68, rfl⟩ := hv68.val); refine sv (PV.nilCheck rfl) ?_; refine sf ?_; (refine T.storeVecP (lv := lvr) Wanted.none rfl rfl rfl hvr (rowLt (f := 0) encRw_len hiA (by omega)) zq1 ?_; intro lv0 hv0); refine so ?_; refine T.blkEnd ?_
        rw [rowSet encRw_len hir (by omega) (x' := ⟨.slice ad68 (ks.length + 1) cap68, ks ++ [bs [122]], rn⟩) rfl] at hv0
        refine T.freezeP (lv := lv0) hv0 zq1 ?_
        intro H8 h8 s8
        refine T.freezeP (lv := lv68) hv68 zq1 ?_
        intro H9 h9 s9
        have hst : StL H9 (.slice ad68 (ks.length + 1) cap68) (ks ++ [bs [122]]) := by
          unfold StL
          rw [List.length_append, List.flatMap_append]
          exact s9
        have hk2 : KsOk (ks ++ [bs [122]]) := ⟨by rw [List.length_append]; show ks.length + 1 ≤ 100; omega, fun k hk => by
          rcases List.mem_append.1 hk with h | h
          · exact hkk.2 k h
          · rw [List.mem_singleton] at h; subst h; decide⟩
        exact K ⟨H9, _, A.set i ⟨.slice ad68 (ks.length + 1) cap68, ks ++ [bs [122]], rn⟩⟩ _ _ _ ⟨h27.trans (h8.trans h9), RwL.setR (s8.mono h9) (fun j y hj hy => (ho j y hj hy).mono (h8.trans h9)) (KsOk.rw (r := ⟨_, ks ++ [bs [122]], _⟩) hk2 hst), by dsimp only; rw [List.length_set]; omega, set_all hn1 hnr⟩ zq8 (by repeat (first | exact Sel.refl _ | exact Sel.nil | (refine Sel.cons zq1 ?_) | (refine Sel.app zq1 ?_) | exact Sel.one zq1)) rfl
      · obtain ⟨s3, hs3, hl3⟩ := lit3s (bs [97]) (bs []) (bs [122, 122]) q3 hq3 (by decide) (by decide) (by decide)
        have hk2 : (ks.flatMap encT).set (0 + (0 : Int).toNat * 1) (.string s3) = (ks.set 0 s3).flatMap encT := by cases ks <;> rfl
        have hk3 : KsOk (ks.set 0 s3) := ⟨by rw [List.length_set]; exact hkk.1, set_all hkk.2 hs3⟩
        have hk4 : 0 + (0 : Int).toNat * 1 < (ks.flatMap encT).length := by rw [flat_len (f := encT) (sz := 1) (fun _ => rfl)]; show 0 < _; omega
        refine yq99 ?_; refine yq187 ?_
        (repeat refine sq ?_)
        refine T.regionS lvr 10 (by kernel_rfl) ?_; refine TS.take 0 rfl (by kernel_rfl) (by kernel_rfl) (by kernel_rfl) (by kernel_rfl) (PV.move rfl) Wanted.none rfl rfl ?_; refine TS.take 1 rfl (by kernel_rfl) (by kernel_rfl) (by kernel_rfl) (by kernel_rfl) (PV.nilCheck rfl) Wanted.none rfl rfl ?_; refine TS.take 2 rfl (by kernel_rfl) (by kernel_rfl) (by kernel_rfl) (by kernel_rfl) (PV.fieldAddr rfl) Wanted.none rfl rfl ?_; refine TS.take 3 rfl (by kernel_rfl) (by kernel_rfl) (by kernel_rfl) (by kernel_rfl) (PV.loadVec rfl (by assumption) zq4 (by assumption)) Wanted.none rfl rfl ?_; refine TS.take 5 rfl (by kernel_rfl) (by kernel_rfl) (by kernel_rfl) (by kernel_rfl) (PV.move rfl) Wanted.none rfl rfl ?_
        refine TS.ways [4, 6] (by kernel_rfl) rfl zq20 ⟨⟨_, rfl, ?_⟩, ⟨_, rfl, ?_⟩, trivial⟩
        · (refine T.buildSlice Wanted.none rfl rfl zq11 (by exact rfl) (by exact rfl) ?_; intro b77); refine yq24 ?_
          refine TS.ways [6] (by kernel_rfl) rfl zq20 ⟨⟨_, rfl, ?_⟩, trivial⟩
          (refine T.callX Wanted.none rfl rfl (m3 _) ?_; rintro _ rfl); refine yq24 ?_; refine TS.take 7 rfl (by kernel_rfl) (by kernel_rfl) (by kernel_rfl) (by kernel_rfl) (PV.indexAddr rfl rfl (by omega)) Wanted.none rfl rfl ?_
          refine TS.ways [8] (by kernel_rfl) rfl zq20 ⟨⟨_, rfl, ?_⟩, trivial⟩
          refine yq130 ?_; refine TS.take 9 rfl (by kernel_rfl) (by kernel_rfl) (by kernel_rfl) (by kernel_rfl) (PV.indexAddr rfl rfl (by omega)) Wanted.none rfl rfl ?_
          refine TS.ways [10] (by kernel_rfl) rfl zq20 ⟨⟨_, rfl, ?_⟩, trivial⟩
          (refine T.storeVecP (lv := lvk) Wanted.none (by exact rfl) (by exact rfl) (by exact rfl) hvk hk4 zq1 ?_; intro lv0 hv0); refine yq86 ?_; refine T.blkEnd ?_
          ((rw [hk2] at hv0; refine T.freezeP (lv := lvr) hvr zq1 ?_; intro H8 h8 s8; refine T.freezeP (lv := lv0) hv0 zq1 ?_; intro H9 h9 s9; exact K ⟨H9, _, A.set i ⟨.slice (some ⟨bk, 0, none⟩) ks.length ck, ks.set 0 s3, rn⟩⟩ _ _ _ ⟨h27.trans (h8.trans h9), RwL.setR (by rw [flatSet (enc := encRw) (x' := ⟨.slice (some ⟨bk, 0, none⟩) ks.length ck, ks.set 0 s3, rn⟩) hir rfl]; exact s8.mono h9) (fun j y hj hy => (ho j y hj hy).mono (h8.trans h9)) (KsOk.rw (r := ⟨_, ks.set 0 s3, _⟩) hk3 (by unfold StL; rw [List.length_set]; exact s9)), by dsimp only; rw [List.length_set]; omega, set_all hn1 hnr⟩ zq8 (by repeat (first | exact Sel.refl _ | exact Sel.nil | (refine Sel.cons zq1 ?_) | (refine Sel.app zq1 ?_) | exact Sel.one zq1)) rfl))
        · (refine T.callX Wanted.none rfl rfl (m3 _) ?_; rintro _ rfl); refine yq24 ?_
          refine TS.ways [4] (by kernel_rfl) rfl zq20 ⟨⟨_, rfl, ?_⟩, trivial⟩
          (refine T.buildSlice Wanted.none rfl rfl zq11 (by exact rfl) (by exact rfl) ?_; intro b77); refine yq24 ?_; refine TS.take 7 rfl (by kernel_rfl) (by kernel_rfl) (by kernel_rfl) (by kernel_rfl) (PV.indexAddr rfl rfl (by omega)) Wanted.none rfl rfl ?_
          refine TS.ways [8] (by kernel_rfl) rfl zq20 ⟨⟨_, rfl, ?_⟩, trivial⟩
          refine yq130 ?_; refine TS.take 9 rfl (by kernel_rfl) (by kernel_rfl) (by kernel_rfl) (by kernel_rfl) (PV.indexAddr rfl rfl (by omega)) Wanted.none rfl rfl ?_
          refine TS.ways [10] (by kernel_rfl) rfl zq20 ⟨⟨_, rfl, ?_⟩, trivial⟩
          (refine T.storeVecP (lv := lvk) Wanted.none (by exact rfl) (by exact rfl) (by exact rfl) hvk hk4 zq1 ?_; intro lv0 hv0); refine yq86 ?_; refine T.blkEnd ?_
          ((rw [hk2] at hv0; refine T.freezeP (lv := lvr) hvr zq1 ?_; intro H8 h8 s8; refine T.freezeP (lv := lv0) hv0 zq1 ?_; intro H9 h9 s9; exact K ⟨H9, _, A.set i ⟨.slice (some ⟨bk, 0, none⟩) ks.length ck, ks.set 0 s3, rn⟩⟩ _ _ _ ⟨h27.trans (h8.trans h9), RwL.setR (by rw [flatSet (enc := encRw) (x' := ⟨.slice (some ⟨bk, 0, none⟩) ks.length ck, ks.set 0 s3, rn⟩) hir rfl]; exact s8.mono h9) (fun j y hj hy => (ho j y hj hy).mono (h8.trans h9)) (KsOk.rw (r := ⟨_, ks.set 0 s3, _⟩) hk3 (by unfold StL; rw [List.length_set]; exact s9)), by dsimp only; rw [List.length_set]; omega, set_all hn1 hnr⟩ zq8 (by repeat (first | exact Sel.refl _ | exact Sel.nil | (refine Sel.cons zq1 ?_) | (refine Sel.app zq1 ?_) | exact Sel.one zq1)) rfl))
      · obtain ⟨r0, hr0⟩ : ∃ r, A[0]? = some r := ⟨_, List.getElem?_eq_getElem (by omega)⟩
        have hf0 : ((A.flatMap encRw).drop (0 + (0 : Int).toNat * 2)).take 2 = [r0.kv, .int .i64 r0.n] := by
          have := flat_elem encRw_len A 0 r0 hr0
          exact this
        refine yq99 ?_; refine yq99 ?_; refine yq187 ?_; refine yq81 ?_; refine sm ?_; refine sv (PV.indexAddr rfl rfl (by omega)) ?_; refine sv (PV.loadVecAll rfl (by assumption) zq4 (by assumption) (by exact rfl)) ?_; (refine T.buildSlice Wanted.none rfl rfl zq11 (by exact rfl) (by exact rfl) ?_; intro b89); (refine T.appendP (lv := lvr) Wanted.none rfl rfl rfl hvr (Src.cells (m := 1) (ys := [r0.kv, .int .i64 r0.n]) (.own zq2) rfl rfl) (one_encRw (hAok _ (List.mem_of_getElem? hr0))) (by omega) zq1 ?_; intro v90 lv90 hv90 _; obtain ⟨ad90, cap90, rfl⟩ := hv90.val); refine yq0 ?_; refine T.blkEnd ?_; refine T.freezeP (lv := lv90) hv90 zq1 ?_
        intro H8 h8 s8
        refine T.freezeP (lv := lvk) hvk zq1 ?_
        intro H9 h9 s9
        have hall := RwOk.allR hir (fun j y hj hy => (ho j y hj hy).mono (h8.trans h9)) (KsOk.rw (r := ⟨_, ks, rn⟩) hkk s9)
        exact K ⟨H9, _, A ++ [r0]⟩ _ _ _ ⟨h27.trans (h8.trans h9), ⟨by
          have := s8.mono h9
          rw [List.length_append, List.flatMap_append]
          exact this, fun y hy => by
          rcases List.mem_append.1 hy with h | h
          · exact hall y h
          · rw [List.mem_singleton] at h; subst h; exact hall _ (List.mem_of_getElem? hr0)⟩, by dsimp only; rw [List.length_append]; show A.length + 1 ≤ 1000; omega, fun y hy => by
          rcases List.mem_append.1 hy with h | h
          · exact hn1 y h
          · rw [List.mem_singleton] at h; subst h; exact hn1 _ (List.mem_of_getElem? hr0)⟩ zq8 (by repeat (first | exact Sel.refl _ | exact Sel.nil | (refine Sel.cons zq1 ?_) | (refine Sel.app zq1 ?_) | exact Sel.one zq1)) rfl
  rintro ⟨H6, va, A1⟩ ⟨k1, k2, k3, k4⟩
  dsimp only at k1 k2 k3 k4 ⊢
  clear hN5 hks hkm hn1 hAl e5 l5 h25 h34
  have hjl : j < gs.length := by omega
  obtain ⟨g, hgj⟩ : ∃ g, gs[j]? = some g := ⟨_, List.getElem?_eq_getElem hjl⟩
  obtain ⟨aA1, cA1, rfl⟩ := k2.1.len
  refine yq137 ?_; refine sv (PV.quo rfl rfl (by omega) (by omega)) ?_; refine yq83 ?_; (refine T.callX Wanted.none rfl rfl (m9 _) ?_; rintro _ rfl); refine sv (PV.indexAddr rfl rfl (by omega)) ?_; refine yq127 ?_; (refine T.callX Wanted.none rfl rfl (m6 _) ?_; rintro _ rfl); refine yq32 ?_; refine yq44 ?_; refine T.cut2Hq (γ := SpK) [(11, Value.slice aA1 A1.length cA1), (9, Value.slice aL L.length cL), (8, Value.pointer (some { block := b8, off := 0 }))] (fun g => Vec 57 6 g.v g.lv g.gs.length (g.gs.flatMap encGp) ∧ g.gs.length ≤ 6) (fun g => [(10, g.v)]) (fun g => g.lv ++ [(b8, .cells #[c.va, c.vt, c.vx, c.vr, c.vn, c.vh, c.vs] 32 (0, 0))]) (fun _ => H6) ?_ fun K => ?_
  rotate_left
  · rcases (by omega : q6 = 0 ∨ q6 = 1 ∨ q6 = 2 ∨ q6 = 3 ∨ q6 = 4 ∨ q6 = 5) with rfl | rfl | rfl | rfl | rfl | rfl
    · refine T.condT rfl rfl ?_; refine yq81 ?_; refine sm ?_; refine sv (PV.nilCheck rfl) ?_; refine sf ?_; (refine T.storeVecP (lv := lvg) Wanted.none rfl rfl rfl hvg (rowLt (f := 0) encGp_len hjl (by omega)) zq1 ?_; intro lv0 hv0); refine so ?_; refine T.blkEnd ?_
      rw [rowSet encGp_len hgj (by omega) (x' := { g with k := (q : Int) - 2 }) rfl] at hv0
      exact K ⟨_, lv0, gs.set j { g with k := (q : Int) - 2 }⟩ _ _ _ ⟨by dsimp only; rw [List.length_set]; exact hv0, by dsimp only; rw [List.length_set]; omega⟩ zq8 (by repeat (first | exact Sel.refl _ | exact Sel.nil | (refine Sel.cons zq1 ?_) | (refine Sel.app zq1 ?_) | exact Sel.one zq1)) rfl
    · refine yq187 ?_; refine yq81 ?_; refine sm ?_; refine sv (PV.nilCheck rfl) ?_; refine sf ?_; (refine T.storeVecP (lv := lvg) Wanted.none rfl rfl rfl hvg (rowLt (f := 1) encGp_len hjl (by omega)) zq1 ?_; intro lv0 hv0); refine so ?_; refine T.blkEnd ?_
      rw [rowSet encGp_len hgj (by omega) (x' := { g with at_ := (q : Int) - 2 }) rfl] at hv0
      exact K ⟨_, lv0, gs.set j { g with at_ := (q : Int) - 2 }⟩ _ _ _ ⟨by dsimp only; rw [List.length_set]; exact hv0, by dsimp only; rw [List.length_set]; omega⟩ zq8 (by repeat (first | exact Sel.refl _ | exact Sel.nil | (refine Sel.cons zq1 ?_) | (refine Sel.app zq1 ?_) | exact Sel.one zq1)) rfl
    · obtain ⟨s3, hs3, hl3⟩ := lit3s (bs []) (bs [119, 111, 114, 100]) (bs [113]) q3 hq3 (by decide) (by decide) (by decide)
      refine yq99 ?_; refine yq187 ?_; refine yq81 ?_; (refine T.buildSlice Wanted.none rfl rfl zq11 (by exact rfl) (by exact rfl) ?_; intro b115); refine sm ?_; (refine T.callX Wanted.none rfl rfl (m3 _) ?_; rintro _ rfl); refine yq133 ?_; refine sv (PV.nilCheck rfl) ?_; refine sf ?_; (refine T.storeVecP (lv := lvg) Wanted.none rfl rfl rfl hvg (rowLt (f := 4) encGp_len hjl (by omega)) zq1 ?_; intro lv0 hv0); refine so ?_; refine T.blkEnd ?_
      rw [rowSet encGp_len hgj (by omega) (x' := { g with nm := s3 }) rfl] at hv0
      exact K ⟨_, lv0, gs.set j { g with nm := s3 }⟩ _ _ _ ⟨by dsimp only; rw [List.length_set]; exact hv0, by dsimp only; rw [List.length_set]; omega⟩ zq8 (by repeat (first | exact Sel.refl _ | exact Sel.nil | (refine Sel.cons zq1 ?_) | (refine Sel.app zq1 ?_) | exact Sel.one zq1)) rfl
    · obtain ⟨s3, hs3, hl3⟩ := lit3s (bs []) (bs [120]) (bs [113]) q3 hq3 (by decide) (by decide) (by decide)
      refine yq99 ?_; refine yq99 ?_; refine yq187 ?_; refine yq81 ?_; (refine T.buildSlice Wanted.none rfl rfl zq11 (by exact rfl) (by exact rfl) ?_; intro b125); refine sm ?_; (refine T.callX Wanted.none rfl rfl (m3 _) ?_; rintro _ rfl); refine yq133 ?_; refine sv (PV.nilCheck rfl) ?_; refine sf ?_; (refine T.storeVecP (lv := lvg) Wanted.none rfl rfl rfl hvg (rowLt (f := 3) encGp_len hjl (by omega)) zq1 ?_; intro lv0 hv0); refine so ?_; refine T.blkEnd ?_
      rw [rowSet encGp_len hgj (by omega) (x' := { g with lb := s3 }) rfl] at hv0
      exact K ⟨_, lv0, gs.set j { g with lb := s3 }⟩ _ _ _ ⟨by dsimp only; rw [List.length_set]; exact hv0, by dsimp only; rw [List.length_set]; omega⟩ zq8 (by repeat (first | exact Sel.refl _ | exact Sel.nil | (refine Sel.cons zq1 ?_) | (refine Sel.app zq1 ?_) | exact Sel.one zq1)) rfl
    · refine yq99 ?_; refine yq99 ?_; refine yq99 ?_; refine yq187 ?_; refine yq81 ?_; refine sv (PV.nilCheck rfl) ?_; refine sf ?_; (refine T.storeVecP (lv := lvg) Wanted.none rfl rfl rfl hvg (rowLt (f := 5) encGp_len hjl (by omega)) zq1 ?_; intro lv0 hv0); refine so ?_; refine T.blkEnd ?_
      rw [rowSet encGp_len hgj (by omega) (x' := { g with rg := bs [115] }) rfl] at hv0
      exact K ⟨_, lv0, gs.set j { g with rg := bs [115] }⟩ _ _ _ ⟨by dsimp only; rw [List.length_set]; exact hv0, by dsimp only; rw [List.length_set]; omega⟩ zq8 (by repeat (first | exact Sel.refl _ | exact Sel.nil | (refine Sel.cons zq1 ?_) | (refine Sel.app zq1 ?_) | exact Sel.one zq1)) rfl
    · have hfg : ((gs.flatMap encGp).drop (0 + ((j : Nat) : Int).toNat * 6)).take 6 = [.int .i64 g.k, .int .i64 g.at_, .int .i64 g.off, .string g.lb, .string g.nm, .string g.rg] := by
        have := flat_elem encGp_len gs j g hgj
        rw [Nat.zero_add, Int.toNat_natCast]
        exact this
      refine yq99 ?_; refine yq99 ?_; refine yq99 ?_; refine yq99 ?_; refine yq187 ?_
      (repeat refine sq ?_)
      refine T.regionS lvg 11 (by kernel_rfl) ?_; refine TS.takeT 0 rfl (by kernel_rfl) (by kernel_rfl) (by kernel_rfl) (by kernel_rfl) (PV.move rfl) Wanted.none rfl rfl ?_; refine TS.takeT 1 rfl (by kernel_rfl) (by kernel_rfl) (by kernel_rfl) (by kernel_rfl) (PV.move rfl) Wanted.none rfl rfl ?_; refine TS.takeT 2 rfl (by kernel_rfl) (by kernel_rfl) (by kernel_rfl) (by kernel_rfl) (PV.nilCheck rfl) Wanted.none rfl rfl ?_; refine TS.takeT 3 rfl (by kernel_rfl) (by kernel_rfl) (by kernel_rfl) (by kernel_rfl) (PV.loadVecAll rfl hvg (List.Sublist.refl _) hfg (by exact rfl)) Wanted.none rfl rfl ?_; refine TS.takeT 4 rfl (by kernel_rfl) (by kernel_rfl) (by kernel_rfl) (by kernel_rfl) (PV.move rfl) Wanted.none rfl rfl ?_; refine TS.takeT 5 rfl (by kernel_rfl) (by kernel_rfl) (by kernel_rfl) (by kernel_rfl) (PV.nilCheck rfl) Wanted.none rfl rfl ?_; refine TS.takeT 6 rfl (by kernel_rfl) (by kernel_rfl) (by kernel_rfl) (by kernel_rfl) (PV.loadVecAll rfl hvg (List.Sublist.refl _) hfg (by exact rfl)) Wanted.none rfl rfl ?_; refine TS.takeT 7 rfl (by kernel_rfl) (by kernel_rfl) (by kernel_rfl) (by kernel_rfl) (PV.move rfl) Wanted.none rfl rfl ?_; refine TS.takeT 8 rfl (by kernel_rfl) (by kernel_rfl) (by kernel_rfl) (by kernel_rfl) (PV.nilCheck rfl) Wanted.none rfl rfl ?_; refine TS.takeT 9 rfl (by kernel_rfl) (by kernel_rfl) (by kernel_rfl) (by kernel_rfl) (PV.loadVecAll rfl hvg (List.Sublist.refl _) hfg (by exact rfl)) Wanted.none rfl rfl ?_
      refine TS.ways [10] (by kernel_rfl) rfl zq20 ⟨⟨_, rfl, ?_⟩, trivial⟩
      (refine T.buildSlice Wanted.none rfl rfl zq11 (by exact rfl) (by exact rfl) ?_; intro b149); refine yq24 ?_
      refine TS.ways [11] (by kernel_rfl) rfl zq20 ⟨⟨_, rfl, ?_⟩, trivial⟩
      (refine T.appendP (lv := lvg) Wanted.none rfl rfl rfl hvg (Src.cells (m := 3) (ys := encGp g ++ (encGp g ++ encGp g)) (.own zq2) rfl rfl) (by intro v hv; rcases List.mem_append.1 hv with h | h; (focus exact one_encGp g v h); rcases List.mem_append.1 h with h | h <;> exact one_encGp g v h) (by omega) zq1 ?_; intro v150 lv150 hv150 _; obtain ⟨ad150, cap150, rfl⟩ := hv150.val); refine yq24 ?_
      refine TS.ways [12] (by kernel_rfl) rfl (.inl (by kernel_rfl)) ⟨⟨_, rfl, ?_⟩, trivial⟩
      refine yq0 ?_; refine yq109 ?_; refine T.blkEnd ?_; (exact K ⟨_, lv150, gs ++ [g, g, g]⟩ _ _ _ ⟨by rw [List.length_append, List.flatMap_append]; exact hv150, by dsimp only; rw [List.length_append]; show gs.length + 3 ≤ 6; omega⟩ zq8 (by repeat (first | exact Sel.refl _ | exact Sel.nil | (refine Sel.cons zq1 ?_) | (refine Sel.app zq1 ?_) | exact Sel.one zq1)) rfl)
  rintro ⟨vg, lv2, g2⟩ ⟨u1, u2⟩
  dsimp only at u1 u2 ⊢
  obtain ⟨ag2, cg2, rfl⟩ := u1.val
  refine T.freezeP (lv := lv2) u1 zq1 ?_
  intro H8 h68 hgs2
  have k28 := k1.trans h68
  have ci := fun H' (h : H8.le H') vl (hl : StL H' vl [bs [120]]) => count_in c [bs [120]] vl L (.slice aL L.length cL) g2 (.slice ag2 g2.length cg2) H' (hT2.mono (k28.trans h)) (hc2.mono (k28.trans h)) hw hl (by simp) (hL.mono (k28.trans h)) hLl hls (SlR.mono hgs2 h) (by omega)
  have cr := fun H' (h : H8.le H') vl (hl : StL H' vl [bs [120]]) => count_refN c [bs [120]] vl L (.slice aL L.length cL) g2 (.slice ag2 g2.length cg2) H' (hc2.mono (k28.trans h)) hw hl (by simp) (hL.mono (k28.trans h)) hLl hls (SlR.mono hgs2 h) (by omega)
  have hRl := countR_len c [bs [120]] L g2
  generalize countR c [bs [120]] L g2 = R at ci cr hRl
  generalize countE c [bs [120]] L g2 = z at ci cr
  unfold cpV at ci cr
  have k28T := hT2.mono k28
  have vi := fun H' (h : H8.le H') => valid_in A1 _ H' (k28T.mono h) (k2.mono (h68.trans h)) k3
  have vr := fun H' (h : H8.le H') => valid_ref A1 _ H' (k2.mono (h68.trans h)) k3
  have ti := fun H' (h : H8.le H') => total_in A1 _ H' (k28T.mono h) (k2.mono (h68.trans h)) k3 k4
  have tr := fun H' (h : H8.le H') => total_ref A1 _ H' (k2.mono (h68.trans h)) k3 k4
  generalize validR (A1.map rwK) = vb at vi vr
  generalize totalR (A1.map rwK) = tt at ti tr
  skip
  (repeat refine sq ?_)
  refine T.cutHq (γ := SpG) [(10, Value.slice ag2 g2.length cg2), (11, Value.slice aA1 A1.length cA1), (9, Value.slice aL L.length cL), (8, Value.pointer (some { block := b8, off := 0 }))] (fun g => H8.le g.H ∧ RwL g.H g.v g.A ∧ (z = 0 → g.A.map rwK = R) ∧ (z ≠ 0 → g.A = [])) (fun g => [(16, g.v), (17, .int .i64 z)]) (fun _ => [(b8, .cells #[c.va, c.vt, c.vx, c.vr, c.vn, c.vh, c.vs] 32 (0, 0))]) (fun g => g.H) ?_ fun K => ?_
  rotate_left
  · refine T.regionO [(b8, .cells #[c.va, c.vt, c.vx, c.vr, c.vn, c.vh, c.vs] 32 (0, 0))] (by kernel_rfl) ?_; refine yq42 ?_; refine yq78 ?_; (refine T.call Wanted.none rfl rfl (labels35_fn _) ?_; intro v153 H153 hle153 hv153; obtain ⟨ad153, cap153, rfl⟩ := hv153.len); refine yq135 ?_; (refine T.call Wanted.none rfl rfl (ci _ zq21 _ (SlR.mono hv153 zq21)) ?_; rintro _ H156 h156 ⟨_, A3, rfl, hA3, qa3, qb3⟩; obtain ⟨aa3, ca3, rfl⟩ := hA3.1.len); refine yq104 ?_; refine yq47 ?_; refine yq50 ?_; refine TO.done (by kernel_rfl) zq4 zq19 ?_; (exact K ⟨_, _, A3⟩ _ _ _ ⟨zq21, hA3, qa3, qb3⟩ zq8 (by repeat (first | exact Sel.refl _ | exact Sel.nil | (refine Sel.cons zq1 ?_) | (refine Sel.app zq1 ?_) | exact Sel.one zq1)) rfl)
  rintro ⟨H9, vA, A2⟩ ⟨h89, hA2, qa2, qb2⟩
  dsimp only at h89 hA2 qa2 qb2 ⊢
  obtain ⟨aa2, ca2, rfl⟩ := hA2.1.len
  (repeat refine sq ?_)
  refine T.cutHq (γ := SpG) [(16, Value.slice aa2 A2.length ca2), (17, Value.int IntKind.i64 z), (11, Value.slice aA1 A1.length cA1)] (fun g => H9.le g.H ∧ RwL g.H g.v g.A ∧ (z = 0 → g.A.map rwK = R) ∧ (z ≠ 0 → g.A = [])) (fun g => [(18, g.v), (19, .int .i64 z)]) (fun _ => [(b8, .cells #[c.va, c.vt, c.vx, c.vr, c.vn, c.vh, c.vs] 32 (0, 0))]) (fun g => g.H) ?_ fun K => ?_
  rotate_left
  · refine T.regionO [(b8, .cells #[c.va, c.vt, c.vx, c.vr, c.vn, c.vh, c.vs] 32 (0, 0))] (by kernel_rfl) ?_; refine yq42 ?_; refine yq78 ?_; (refine T.call Wanted.none rfl rfl (labels35_fn _) ?_; intro v161 H161 hle161 hv161; obtain ⟨ad161, cap161, rfl⟩ := hv161.len); refine yq135 ?_; (refine T.call Wanted.none rfl rfl (cr _ zq21 _ (SlR.mono hv161 zq21)) ?_; rintro _ H164 h164 ⟨_, A3, rfl, hA3, qa3, qb3, _⟩; obtain ⟨aa3, ca3, rfl⟩ := hA3.1.len); refine yq104 ?_; refine yq47 ?_; refine yq50 ?_; refine TO.done (by kernel_rfl) zq4 zq19 ?_; (exact K ⟨_, _, A3⟩ _ _ _ ⟨zq21, hA3, qa3, qb3⟩ zq8 (by repeat (first | exact Sel.refl _ | exact Sel.nil | (refine Sel.cons zq1 ?_) | (refine Sel.app zq1 ?_) | exact Sel.one zq1)) rfl)
  rintro ⟨H10, vB, A3⟩ ⟨h910, hA3, qa3, qb3⟩
  dsimp only at h910 hA3 qa3 qb3 ⊢
  obtain ⟨aa3, ca3, rfl⟩ := hA3.1.len
  have e23 : A2.map rwK = A3.map rwK := by
    by_cases h0 : z = 0
    · rw [qa2 h0, qa3 h0]
    · rw [qb2 h0, qb3 h0]
  have l2 : A2.length ≤ 1000000 := by
    by_cases h0 : z = 0
    · have := congrArg List.length (qa2 h0); rw [List.length_map] at this; omega
    · rw [qb2 h0]; simp
  have d3 : decide (z = z) = true := by simp
  have d4 : decide (tt = tt) = true := by simp
  have d5 : (vb == vb) = true := by simp
  refine yq2 ?_; (refine T.callX Wanted.none rfl rfl (vi _ zq21) ?_; rintro _ rfl); refine sm ?_; (refine T.callX Wanted.none rfl rfl (vr _ zq21) ?_; rintro _ rfl); refine sv (PV.beql rfl rfl) ?_; refine sm ?_; refine T.pv (PV.move rfl) (Wanted.guard rfl rfl (by assumption)) rfl rfl ?_; (refine T.callX (Wanted.guard rfl rfl (by assumption)) rfl rfl (ti _ zq21) ?_; rintro _ rfl); refine T.pv (PV.move rfl) (Wanted.guard rfl rfl (by assumption)) rfl rfl ?_; (refine T.callX (Wanted.guard rfl rfl (by assumption)) rfl rfl (tr _ zq21) ?_; rintro _ rfl); refine T.pv (PV.eql rfl rfl) (Wanted.guard rfl rfl (by assumption)) rfl rfl ?_; refine sv (PV.pickT rfl (by assumption) rfl) ?_; refine sm ?_; refine yq126 ?_; refine T.pv (PV.eql rfl rfl) (Wanted.guard rfl rfl (by assumption)) rfl rfl ?_; refine sv (PV.pickT rfl (by assumption) rfl) ?_; refine sm ?_; refine yq126 ?_; (refine T.callX (Wanted.guard rfl rfl (by assumption)) rfl rfl (same_eq e23 l2 _ _ _ (hA2.mono zq21) (hA3.mono zq21)) ?_; rintro _ rfl); refine sv (PV.pickT rfl (by assumption) rfl) ?_; refine sm ?_; (refine T.callX (Wanted.guard rfl rfl rfl) rfl rfl (known35_fn _ (k28T.mono zq21)) ?_; rintro _ rfl); refine sT ?_; refine yq0 ?_
  exact T.retF (Lv.fin (RV.tmp rfl rfl) rfl)
end Go.Proofs.YthacphfjchpoaaaGreatDoor
