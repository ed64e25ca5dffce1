/- table: the reference's order, Same.
   table: the reference's sum. -/
import Derived.Test.YthacphfjchpoaaaGreatDoorGJ
import Derived.Test.YthacphfjchpoaaaGreatDoorGG
namespace Go.Proofs.YthacphfjchpoaaaGreatDoor
open Go.RowKit

def cX : List ByteArray → List ByteArray → Int
  | a :: u, b :: v => if cS a b ≠ 0 then cS a b else cX u v
  | u, v => (u.length : Int) - v.length
theorem cX_cL : ∀ a b, (cX a b < 0 ↔ cL a b < 0) ∧ (cX a b = 0 ↔ cL a b = 0)
  | [], [] => by simp [cX, cL]
  | [], _ :: v => by simp [cX, cL]; omega
  | _ :: u, [] => by simp [cX, cL]; omega
  | a :: u, b :: v => by
    have ih := cX_cL u v
    unfold cX cL
    by_cases h : cS a b = 0
    · rw [if_neg (by omega), if_neg (by omega)]; exact ih
    · rw [if_pos h, if_pos h]; exact ⟨Iff.rfl, Iff.rfl⟩
theorem cX_drop {a b : List ByteArray} {i : Nat} {x y : ByteArray} (hx : a[i]? = some x) (hy : b[i]? = some y) : cX (a.drop i) (b.drop i) = if cS x y ≠ 0 then cS x y else cX (a.drop (i + 1)) (b.drop (i + 1)) := by
  rw [List.drop_eq_getElem_cons (List.getElem?_eq_some_iff.1 hx).1, (List.getElem?_eq_some_iff.1 hx).2, List.drop_eq_getElem_cons (List.getElem?_eq_some_iff.1 hy).1, (List.getElem?_eq_some_iff.1 hy).2]
  rfl
theorem cX_end (a b : List ByteArray) (h : a = [] ∨ b = []) : cX a b = (a.length : Int) - b.length := by
  rcases h with rfl | rfl
  · cases b <;> rfl
  · cases a <;> rfl
set_option maxHeartbeats 1000000 in
theorem cmpX_fn (a b : List ByteArray) (va vb : Value) (H : Hp) (ha : StL H va a) (hb : StL H vb b) (hla : a.length ≤ 1000000) (hlb : b.length ≤ 1000000) : Fn Tryz.prog 46 #[va, vb] H (fun u _ => u = .int .i64 (cX a b)) := by
  obtain ⟨ada, capa, rfl⟩ := ha.len
  obtain ⟨adb, capb, rfl⟩ := hb.len
  refine Fn.of_T (vs := [.slice ada a.length capa, .slice adb b.length capb]) Tryz.func46 rfl rfl fun w => ?_; refine yq25 ?_; refine sq ?_; refine yq25 ?_; refine T.block ?_; refine T.loopK [(0, Value.slice ada a.length capa), (1, Value.slice adb b.length capb)] zq8 (γ := Nat) (fun i => i ≤ a.length ∧ i ≤ b.length ∧ cX (a.drop i) (b.drop i) = cX a b) (fun i => [(5, .int .i64 (i : Int))]) (fun _ => []) (fun _ => H) (fun i => a.length - i) 0 ⟨by simp, by simp, rfl⟩ zq8 (by repeat (first | exact Sel.refl _ | exact Sel.nil | (refine Sel.cons zq1 ?_) | (refine Sel.app zq1 ?_) | exact Sel.one zq1)) rfl ?_
  rintro i ⟨i1, i2, i3⟩
  by_cases hi : i < a.length
  · obtain ⟨b1, off1, x, rfl, hx, hsub1⟩ := RowL.get encT_len ha hi
    by_cases hj : i < b.length
    · obtain ⟨b2, off2, y, hye, hy, hsub2⟩ := RowL.get encT_len hb hj
      subst hye
      unfold encT at hsub1 hsub2
      rw [cX_drop hx hy] at i3
      by_cases h1 : x = y
      · have h2 : decide (x ≠ y) = false := by simp [h1]
        have h3 : cS x y = 0 := by rw [h1, cS_self]
        rw [if_neg (by omega)] at i3
        refine yq14 ?_; refine yq83 ?_; refine yq49 ?_; refine T.setT (d := 10) rfl (by omega) ?_; refine gm ?_; refine yq114 ?_; refine yq134 ?_; refine so ?_; refine yq33 ?_; refine sq ?_; refine yq39 ?_; refine yq117 ?_; refine TQ.pv (PV.move rfl) Wanted.none rfl rfl ?_; refine yq117 ?_; refine yq152 ?_; refine yq108 ?_; refine yq35 ?_; refine sm ?_; refine yq63 ?_
        exact T.nextP (i + 1) ⟨by omega, by omega, i3⟩ (by omega) zq8 (by repeat (first | exact Sel.refl _ | exact Sel.nil | (refine Sel.cons zq1 ?_) | (refine Sel.app zq1 ?_) | exact Sel.one zq1)) rfl
      · have h2 : decide (x ≠ y) = true := by simp [h1]
        have h3 : ¬ cS x y = 0 := fun h => h1 (cS_eq h)
        rw [if_pos h3] at i3
        have hbl := bLess_cmp x.data.toList y.data.toList
        change _ = decide (cS x y < 0) at hbl
        rcases cS_range x y with h | h | h
        · rw [h] at hbl i3
          change _ = true at hbl
          refine yq14 ?_; refine yq83 ?_; refine yq49 ?_; refine T.setT (d := 10) rfl (by omega) ?_; refine gm ?_; refine yq114 ?_; refine yq134 ?_; refine so ?_; refine yq33 ?_; refine sq ?_; refine yq39 ?_; refine yq117 ?_; refine TQ.pv (PV.move rfl) Wanted.none rfl rfl ?_; refine yq117 ?_; refine yq152 ?_; refine T.condT rfl (by assumption) ?_; refine sq ?_; refine sq ?_; refine yq39 ?_; refine yq117 ?_; refine yq150 ?_
          refine TQ.pv (PV.indexAddr rfl rfl (by omega)) Wanted.none rfl rfl ?_; refine TQ.pv (PV.loadSub0 rfl (by assumption)) Wanted.none rfl rfl ?_; refine TQ.pv (PV.slss rfl rfl) Wanted.none rfl rfl ?_; refine TQ.nil ?_; refine T.condT rfl (by assumption) ?_; refine yq25 ?_
          exact T.retF (Lv.fin (RV.tmp rfl rfl) (by rw [← i3]))
        · exact absurd h h3
        · rw [h] at hbl i3
          change _ = false at hbl
          refine yq14 ?_; refine yq83 ?_; refine yq49 ?_; refine T.setT (d := 10) rfl (by omega) ?_; refine gm ?_; refine yq114 ?_; refine yq134 ?_; refine so ?_; refine yq33 ?_; refine sq ?_; refine yq39 ?_; refine yq117 ?_; refine TQ.pv (PV.move rfl) Wanted.none rfl rfl ?_; refine yq117 ?_; refine yq152 ?_; refine T.condT rfl (by assumption) ?_; refine sq ?_; refine sq ?_; refine yq39 ?_; refine yq117 ?_; refine yq150 ?_
          refine TQ.pv (PV.indexAddr rfl rfl (by omega)) Wanted.none rfl rfl ?_; refine TQ.pv (PV.loadSub0 rfl (by assumption)) Wanted.none rfl rfl ?_; refine TQ.pv (PV.slss rfl rfl) Wanted.none rfl rfl ?_; refine TQ.nil ?_; refine yq108 ?_; refine yq25 ?_
          exact T.retF (Lv.fin (RV.tmp rfl rfl) (by rw [← i3]))
    · rw [cX_end _ _ (.inr (List.drop_of_length_le (by omega))), List.length_drop, List.length_drop] at i3
      refine yq14 ?_; refine yq83 ?_; refine yq49 ?_; refine T.setT (d := 10) rfl (by omega) ?_; refine gm ?_; refine yq114 ?_; refine yq134 ?_; refine so ?_; refine yq16 ?_; refine yq2 ?_; refine sv (PV.lenSl rfl) ?_; refine yq83 ?_; refine yq77 ?_
      exact T.retF (Lv.fin (RV.tmp rfl rfl) (by rw [← i3]; congr 1; omega))
  · rw [cX_end _ _ (.inl (List.drop_of_length_le (by omega))), List.length_drop, List.length_drop] at i3
    refine yq14 ?_; refine yq83 ?_; refine yq49 ?_; refine T.setF (d := 10) rfl (by omega) ?_; refine yq66 ?_; refine sF ?_; refine so ?_; refine yq142 ?_; refine yq2 ?_; refine sv (PV.lenSl rfl) ?_; refine yq83 ?_; refine yq77 ?_
    exact T.retF (Lv.fin (RV.tmp rfl rfl) (by rw [← i3]; congr 1; omega))
theorem ltR_of (a b : Rw) : ltR (rwK a) (rwK b) = decide (b.n < a.n ∨ (a.n = b.n ∧ cX a.ks b.ks < 0)) := by
  unfold ltR
  rw [decide_eq_decide, (cX_cL a.ks b.ks).1]
  unfold cR rwK
  dsimp only
  by_cases h1 : b.n < a.n
  · simp [h1]
  · by_cases h2 : a.n < b.n
    · simp [h1, h2]; omega
    · simp [h1, h2]; omega
set_option maxHeartbeats 1000000 in
theorem less_fn (a b : Rw) (H : Hp) (ha : RwOk H a) (hb : RwOk H b) : Fn Tryz.prog 45 #[rwV a, rwV b] H (fun u _ => u = .bool (ltR (rwK a) (rwK b))) := by
  obtain ⟨aa, ca, hav⟩ := ha.1.len
  obtain ⟨ab, cb, hbv⟩ := hb.1.len
  have h1 := ha.1
  have h2 := hb.1
  rw [hav] at h1
  rw [hbv] at h2
  have hl1 := ha.2.1
  have hl2 := hb.2.1
  have hc := cmpX_fn a.ks b.ks _ _ H h1 h2 (by omega) (by omega)
  rw [ltR_of]
  unfold rwV
  rw [hav, hbv]
  refine Fn.of_T (vs := [.agg #[.slice aa a.ks.length ca, .int .i64 a.n], .agg #[.slice ab b.ks.length cb, .int .i64 b.n]]) Tryz.func45 rfl rfl fun w => ?_
  by_cases c1 : b.n < a.n
  · refine zs3 ?_; (refine T.box Wanted.none rfl rfl zq15 ?_; intro b2); (refine T.box Wanted.none rfl rfl zq15 ?_; intro b3); refine yq23 ?_; refine yq148 ?_; refine sv (PV.gtr rfl rfl) ?_; refine sm ?_; refine T.setT (d := 10) rfl (by omega) ?_; refine yq149 ?_; refine yq177 ?_; refine yq93 ?_; refine sp ?_; refine sT ?_; refine yq0 ?_
    exact T.retF (Lv.fin (RV.tmp rfl rfl) (by rw [decide_eq_true (.inl c1)]))
  · by_cases c2 : a.n = b.n
    · refine zs3 ?_; (refine T.box Wanted.none rfl rfl zq15 ?_; intro b2); (refine T.box Wanted.none rfl rfl zq15 ?_; intro b3); refine yq23 ?_; refine yq148 ?_; refine sv (PV.gtr rfl rfl) ?_; refine sm ?_; refine T.setF (d := 10) rfl (by omega) ?_; refine yq161 ?_; refine gv (PV.eql rfl rfl) ?_; refine gm ?_; refine T.setT (d := 16) rfl (by omega) ?_; refine yq161 ?_; refine T.callV (Wanted.guard rfl rfl rfl) rfl rfl (hc) ?_; refine gv (PV.lss rfl rfl) ?_; refine gv (PV.pickT rfl rfl rfl) ?_; refine yq118 ?_
      exact T.retF (Lv.fin (RV.tmp rfl rfl) (by congr 1; rw [decide_eq_decide]; omega))
    · refine zs3 ?_; (refine T.box Wanted.none rfl rfl zq15 ?_; intro b2); (refine T.box Wanted.none rfl rfl zq15 ?_; intro b3); refine yq23 ?_; refine yq148 ?_; refine sv (PV.gtr rfl rfl) ?_; refine sm ?_; refine T.setF (d := 10) rfl (by omega) ?_; refine yq161 ?_; refine gv (PV.eql rfl rfl) ?_; refine gm ?_; refine T.setF (d := 16) rfl (by omega) ?_; refine yq149 ?_; refine gv (PV.pickF rfl rfl rfl) ?_; refine yq118 ?_
      exact T.retF (Lv.fin (RV.tmp rfl rfl) (by rw [decide_eq_false (by omega)]))
theorem takeK {l m : List Rw} {i : Nat} {x y : Rw} (hx : l[i]? = some x) (hy : m[i]? = some y) (h : (l.take i).map rwK = (m.take i).map rwK) (e : rwK x = rwK y) : (l.take (i + 1)).map rwK = (m.take (i + 1)).map rwK := by
  rw [List.take_add_one, List.take_add_one, hx, hy, List.map_append, List.map_append, h]
  simp [e]
theorem neK {l m : List Rw} {i : Nat} {x y : Rw} (hx : l[i]? = some x) (hy : m[i]? = some y) (e : ¬ rwK x = rwK y) : ¬ l.map rwK = m.map rwK := by
  intro h
  have := congrArg (fun t => t[i]?) h
  simp only [List.getElem?_map, hx, hy, Option.map_some, Option.some.injEq] at this
  exact e this
set_option maxHeartbeats 1000000 in
theorem same35_fn (l m : List Rw) (u v : Value) (H : Hp) (hu : RwL H u l) (hv : RwL H v m) (hl : l.length ≤ 1000000) : Fn Tryz.prog 19 #[u, v] H (fun x _ => x = .bool (decide (l.map rwK = m.map rwK))) := by
  obtain ⟨au, cu, rfl⟩ := hu.1.len
  obtain ⟨av, cv, rfl⟩ := hv.1.len
  refine Fn.of_T (vs := [.slice au l.length cu, .slice av m.length cv]) Tryz.func19 rfl rfl fun w => ?_
  by_cases hlen : l.length = m.length
  · have hlen2 : (l.length : Int) = (m.length : Int) := by omega
    refine yq25 ?_; refine yq27 ?_; refine yq83 ?_; refine sv (PV.neq rfl rfl) ?_; refine yq88 ?_; refine yq112 ?_; refine T.loopC [(12, Value.int IntKind.i64 (↑l.length : Int)), (0, Value.slice au l.length cu), (1, Value.slice av m.length cv)] zq8 13 l.length (fun i => (l.take i).map rwK = (m.take i).map rwK) rfl rfl ?_
    rintro i ⟨hi0, hi1⟩
    by_cases hi : i < l.length
    · obtain ⟨b1, off1, x, rfl, hix, hsub1⟩ := RowL.get encRw_len hu.1 hi
      obtain ⟨b2, off2, y, hye, hiy, hsub2⟩ := RowL.get encRw_len hv.1 (i := i) (by omega)
      subst hye
      have hxo := hu.2 x (List.mem_of_getElem? hix)
      have hyo := hv.2 y (List.mem_of_getElem? hiy)
      obtain ⟨ax, cx, hxv⟩ := hxo.1.len
      obtain ⟨ay, cy, hyv⟩ := hyo.1.len
      unfold encRw at hsub1 hsub2
      rw [hxv] at hsub1
      rw [hyv] at hsub2
      have q1 := hxo.1
      have q2 := hyo.1
      rw [hxv] at q1
      rw [hyv] at q2
      have hts := texts_same x.ks y.ks _ _ H q1 q2 (by have := hxo.2.1; omega)
      by_cases c1 : x.n = y.n
      · by_cases c2 : x.ks = y.ks
        · rw [decide_eq_true c2] at hts
          refine yq87 ?_; refine yq0 ?_; refine sq ?_; refine yq39 ?_; refine yq11 ?_; refine yq21 ?_; refine yq159 ?_; refine yq21 ?_; refine TQ.pv (PV.neq rfl rfl) Wanted.none rfl rfl ?_; refine TQ.pv (PV.move rfl) Wanted.none rfl rfl ?_; refine TQ.setF (d := 27) rfl (by omega) ?_; refine yq124 ?_; refine yq151 ?_; refine yq124 ?_; refine yq151 ?_; refine TQ.callV (Wanted.guard rfl rfl rfl) rfl rfl (hts) ?_; refine TQ.pv (PV.not rfl) (Wanted.guard rfl rfl rfl) rfl rfl ?_; refine TQ.pv (PV.pickF rfl rfl rfl) Wanted.none rfl rfl ?_
          refine TQ.nil ?_; refine yq26 ?_; refine yq61 ?_
          exact T.nextC hi (takeK hix hiy hi1 (Prod.ext c2 c1)) rfl zq8 (by repeat (first | exact Sel.refl _ | exact Sel.nil | (refine Sel.cons zq1 ?_) | (refine Sel.app zq1 ?_) | exact Sel.one zq1))
        · rw [decide_eq_false c2] at hts
          refine yq87 ?_; refine yq0 ?_; refine sq ?_; refine yq39 ?_; refine yq11 ?_; refine yq21 ?_; refine yq159 ?_; refine yq21 ?_; refine TQ.pv (PV.neq rfl rfl) Wanted.none rfl rfl ?_; refine TQ.pv (PV.move rfl) Wanted.none rfl rfl ?_; refine TQ.setF (d := 27) rfl (by omega) ?_; refine yq124 ?_; refine yq151 ?_; refine yq124 ?_; refine yq151 ?_; refine TQ.callV (Wanted.guard rfl rfl rfl) rfl rfl (hts) ?_; refine TQ.pv (PV.not rfl) (Wanted.guard rfl rfl rfl) rfl rfl ?_; refine TQ.pv (PV.pickF rfl rfl rfl) Wanted.none rfl rfl ?_
          refine TQ.nil ?_; refine yq196 ?_
          exact T.retF (Lv.fin (RV.tmp rfl rfl) (by rw [decide_eq_false (neK hix hiy fun h => c2 (congrArg Prod.fst h))]))
      · refine yq87 ?_; refine yq0 ?_; refine sq ?_; refine yq39 ?_; refine yq11 ?_; refine yq21 ?_; refine yq159 ?_; refine yq21 ?_; refine TQ.pv (PV.neq rfl rfl) Wanted.none rfl rfl ?_; refine TQ.pv (PV.move rfl) Wanted.none rfl rfl ?_; refine TQ.setT (d := 27) rfl (by omega) ?_; refine yq4 ?_; refine yq4 ?_; refine yq4 ?_; refine yq4 ?_; refine yq4 ?_; refine yq4 ?_; refine TQ.pv (PV.pickT rfl rfl rfl) Wanted.none rfl rfl ?_
        refine TQ.nil ?_; refine yq196 ?_
        exact T.retF (Lv.fin (RV.tmp rfl rfl) (by rw [decide_eq_false (neK hix hiy fun h => c1 (congrArg Prod.snd h))]))
    · rw [List.take_of_length_le (by omega), List.take_of_length_le (by omega)] at hi1
      refine yq195 ?_
      exact T.retF (Lv.fin (RV.tmp rfl rfl) (by rw [decide_eq_true hi1]))
  · have hlen2 : ¬ (l.length : Int) = (m.length : Int) := by omega
    refine yq25 ?_; refine yq27 ?_; refine yq83 ?_; refine sv (PV.neq rfl rfl) ?_; refine yq46 ?_; refine yq25 ?_
    refine T.retF (Lv.fin (RV.tmp rfl rfl) (by rw [decide_eq_false]; intro h; have := congrArg List.length h; simp at this; exact hlen this))
end Go.Proofs.YthacphfjchpoaaaGreatDoor
namespace Go.Proofs.YthacphfjchpoaaaGreatDoor
open Go.RowKit

theorem takeW (l : List Rw) (k : Nat) (h : k ≤ l.length) : (l.flatMap encRw).take (k * 2) = (l.take k).flatMap encRw := by
  have : l.flatMap encRw = (l.take k).flatMap encRw ++ (l.drop k).flatMap encRw := by rw [← List.flatMap_append, List.take_append_drop]
  rw [this, List.take_left' (by rw [flat_len encRw_len, List.length_take]; congr 1; omega)]
theorem dropW (l : List Rw) (k : Nat) (h : k ≤ l.length) : (l.flatMap encRw).drop (k * 2) = (l.drop k).flatMap encRw := by
  have : l.flatMap encRw = (l.take k).flatMap encRw ++ (l.drop k).flatMap encRw := by rw [← List.flatMap_append, List.take_append_drop]
  rw [this, List.drop_left' (by rw [flat_len encRw_len, List.length_take]; congr 1; omega)]
theorem RwS.pre {H : Hp} {ad : Option Addr} {cap : Nat} {l : List Rw} (h : SlR H 2 (.slice ad l.length cap) l.length (l.flatMap encRw)) {k : Nat} (hk : k ≤ l.length) : SlR H 2 (.slice ad ((k : Nat) : Int).toNat cap) k ((l.take k).flatMap encRw) := by
  have := h.pre hk
  rw [takeW l k hk] at this
  rw [Int.toNat_natCast]; exact this
theorem RwS.suf {H : Hp} {ad : Option Addr} {cap : Nat} {l : List Rw} (h : SlR H 2 (.slice ad l.length cap) l.length (l.flatMap encRw)) {k : Nat} (hk : k ≤ l.length) : SlR H 2 (slV 2 ad ((k : Nat) : Int).toNat l.length cap) (l.length - k) ((l.drop k).flatMap encRw) := by
  have := h.slice (lo := k) (hi := l.length) hk (Nat.le_refl _)
  rw [dropW l k hk, List.take_of_length_le (by rw [flat_len encRw_len, List.length_drop]; omega)] at this
  rw [Int.toNat_natCast]; exact this
theorem one_flatW {H : Hp} {l : List Rw} (h : ∀ m ∈ l, RwOk H m) : ∀ v ∈ l.flatMap encRw, v.oneCell' = true := by
  intro v hv
  obtain ⟨s, hs, hs2⟩ := List.mem_flatMap.1 hv
  exact one_encRw (h s hs) v hs2
/-- the rows that the reference has come to -/
def gotR (L : List RK) (i : Nat) : List RK := (dk (L.take i)).map fun k => (k, tot L k)
theorem gotR_skip {L : List RK} {i : Nat} {r : RK} (h : L[i]? = some r) (hm : r.1 ∈ dk (L.take i)) : gotR L (i + 1) = gotR L i := by
  unfold gotR
  rw [List.take_add_one, h]
  show (dk (L.take i ++ [r])).map _ = _
  rw [dk_snoc, if_pos hm]
theorem gotR_push {L : List RK} {i : Nat} {r : RK} (h : L[i]? = some r) (hm : r.1 ∉ dk (L.take i)) : gotR L (i + 1) = gotR L i ++ [(r.1, tot L r.1)] := by
  unfold gotR
  rw [List.take_add_one, h]
  show (dk (L.take i ++ [r])).map _ = _
  rw [dk_snoc, if_neg hm, List.map_append]; rfl
theorem gotR_all (L : List RK) : gotR L L.length = grpR L := by unfold gotR grpR; rw [List.take_length]
/-- no row of a list has the key -/
def fstB (l : List RK) (k : List ByteArray) : Bool := l.all fun x => decide (x.1 ≠ k)
theorem fstB_snoc (l : List RK) (x : RK) (k : List ByteArray) : fstB (l ++ [x]) k = (fstB l k && decide (x.1 ≠ k)) := by unfold fstB; rw [List.all_append]; simp
theorem fstB_dk {l : List RK} {k : List ByteArray} : fstB l k = true ↔ k ∉ dk l := by
  unfold fstB
  rw [dk_mem, List.all_eq_true]
  constructor
  · rintro h ⟨x, hx, he⟩; exact absurd he (by simpa using h x hx)
  · intro h x hx
    rw [decide_eq_true_eq]
    exact fun he => h ⟨x, hx, he⟩
structure RsG where
  i : Nat
  H : Hp
  v : Value
  A : List Rw
structure RsJ where
  j : Nat
  q : Bool
  n : Int
structure RsV where
  v : Value
  lv : List (Nat × Obj)
set_option maxHeartbeats 8000000 in
theorem sum_ref (L : List Rw) (v : Value) (H : Hp) (hL : RwL H v L) (hLl : L.length ≤ 1000) (hn : ∀ r ∈ L, 0 ≤ r.n ∧ r.n ≤ 1099511627776) :
    Fn Tryz.prog 39 #[v] H (fun u H' => ∃ A, RwL H' u A ∧ A.map rwK = sumR (L.map rwK)) := by
  obtain ⟨am, cm, rfl⟩ := hL.1.len
  obtain ⟨F, hF⟩ : ∃ F, F = L.map rwK := ⟨_, rfl⟩
  have hFl : F.length = L.length := by rw [hF, List.length_map]
  have hFn : ∀ x ∈ F, 0 ≤ x.2 ∧ x.2 ≤ 1099511627776 := by rw [hF]; rintro x hx; obtain ⟨z, hz, rfl⟩ := List.mem_map.1 hx; exact hn z hz
  refine Fn.of_T (vs := [.slice am L.length cm]) Tryz.func39 rfl rfl fun w => ?_
  rw [← hF]
  refine zs3 ?_; refine yq23 ?_; refine yq0 ?_; refine yq112 ?_; refine T.loopK [(13, Value.int IntKind.i64 (↑L.length : Int)), (12, Value.slice am L.length cm), (0, Value.slice am L.length cm)] zq8 (γ := RsG) (fun g => g.i ≤ L.length ∧ H.le g.H ∧ RwL g.H g.v g.A ∧ g.A.map rwK = sortK ltR (gotR F g.i) ∧ g.A.length ≤ g.i) (fun g => [(14, .int .i64 (g.i : Int)), (3, g.v)]) (fun _ => []) (fun g => g.H) (fun g => L.length - g.i) ⟨0, H, .slice none 0 0, []⟩ ⟨by simp, Hp.le.refl _, ⟨SlR.empty, by simp⟩, rfl, by simp⟩ zq8 (by repeat (first | exact Sel.refl _ | exact Sel.nil | (refine Sel.cons zq1 ?_) | (refine Sel.app zq1 ?_) | exact Sel.one zq1)) rfl ?_
  rintro ⟨i, H6, v, A⟩ ⟨g1, g2, g3, g4, g5⟩
  dsimp only at g1 g2 g3 g4 g5 ⊢
  obtain ⟨aA, cA, rfl⟩ := g3.1.len
  by_cases hi : i < L.length
  · obtain ⟨bx, off, r, rfl, hix, hsub⟩ := RowL.get encRw_len (hL.1.mono g2) hi
    have hmm := List.mem_of_getElem? hix
    have hrok := (hL.2 r hmm).mono g2
    obtain ⟨ar, cr, hrv⟩ := hrok.1.len
    have hrs := hrok.1
    rw [hrv] at hrs
    unfold encRw at hsub
    rw [hrv] at hsub
    have hrl := hrok.2.1
    have hFi : F[i]? = some (rwK r) := by rw [hF, List.getElem?_map, hix]; rfl
    refine yq155 ?_; refine sy fun b5 => ?_; refine sa ?_; refine yq10 ?_; refine yq55 ?_; refine yq112 ?_; refine T.loopK [(20, Value.int IntKind.i64 (↑L.length : Int)), (19, Value.slice (some { block := bx, off := off }) L.length cm), (4, Value.int IntKind.i64 (↑i : Int)), (5, Value.pointer (some { block := b5, off := 0 })), (14, Value.int IntKind.i64 (↑i : Int)), (3, Value.slice aA A.length cA), (13, Value.int IntKind.i64 (↑L.length : Int)), (12, Value.slice (some { block := bx, off := off }) L.length cm), (0, Value.slice (some { block := bx, off := off }) L.length cm)] zq8 (γ := RsJ) (fun g => g.j ≤ L.length ∧ g.q = fstB (F.take (min g.j i)) r.ks ∧ g.n = tot (F.take g.j) r.ks) (fun g => [(21, .int .i64 (g.j : Int)), (6, .bool g.q), (7, .int .i64 g.n)]) (fun _ => [(b5, .cells #[.slice ar r.ks.length cr, .int .i64 r.n] 52 (0, 0))]) (fun _ => H6) (fun g => L.length - g.j) ⟨0, true, 0⟩ ⟨by simp, by simp [fstB], by simp [tot]⟩ zq8 (by repeat (first | exact Sel.refl _ | exact Sel.nil | (refine Sel.cons zq1 ?_) | (refine Sel.app zq1 ?_) | exact Sel.one zq1)) rfl ?_
    rintro ⟨j, q, n⟩ ⟨j1, j2, j3⟩
    dsimp only at j1 j2 j3 ⊢
    by_cases hj : j < L.length
    · obtain ⟨by1, offy, x, hye, hjx, hsuby⟩ := RowL.get encRw_len (hL.1.mono g2) hj
      simp only [Option.some.injEq, Addr.mk.injEq, and_true] at hye
      obtain ⟨rfl, rfl⟩ := hye
      have hxm := List.mem_of_getElem? hjx
      have hxok := (hL.2 x hxm).mono g2
      obtain ⟨ax, cx, hxv⟩ := hxok.1.len
      have hxs := hxok.1
      rw [hxv] at hxs
      unfold encRw at hsuby
      rw [hxv] at hsuby
      have hxl := hxok.2.1
      have hFj : F[j]? = some (rwK x) := by rw [hF, List.getElem?_map, hjx]; rfl
      have htk : tot (F.take (j + 1)) r.ks = tot (F.take j) r.ks + (if x.ks = r.ks then x.n else 0) := by
        rw [List.take_add_one, hFj, tot_append]
        show _ + tot [rwK x] r.ks = _
        rw [tot_cons, tot_nil, Int.add_zero]; rfl
      have hbd := tot_bound (m := 1099511627776) (by omega) (l := F.take j) (fun y hy => hFn y (List.mem_of_mem_take hy)) r.ks
      have hlen : (F.take j).length ≤ 1000 := by rw [List.length_take]; omega
      have hxn := hn x hxm
      have hcx := cmpX_fn r.ks x.ks _ _ H6 hrs hxs (by omega) (by omega)
      have hc0 := (cX_cL r.ks x.ks).2
      rw [cL_iff] at hc0
      by_cases e : x.ks = r.ks
      · have hz : cX r.ks x.ks = 0 := hc0.2 e.symm
        rw [hz] at hcx
        rw [if_pos e] at htk
        by_cases hq : j < i
        · have hq2 : fstB (F.take (min (j + 1) i)) r.ks = false := by
            rw [show min (j + 1) i = j + 1 by omega, List.take_add_one, hFj]
            show fstB (F.take j ++ [rwK x]) r.ks = false
            rw [fstB_snoc, decide_eq_false (show ¬ (rwK x).1 ≠ r.ks from not_not_intro e), Bool.and_false]
          cases q
          · refine yq155 ?_; refine sy fun b9 => ?_; refine sa ?_; refine yq115 ?_; refine yq5 ?_; refine T.callV Wanted.none rfl rfl (hcx) ?_; refine yq197 ?_; refine yq137 ?_; refine yq8 ?_; refine sp ?_; refine sF ?_; refine sa ?_; refine zs2 ?_; refine sm ?_; refine yq5 ?_; refine yq63 ?_; refine T.blkEnd ?_
            refine sr ?_; refine yq60 ?_
            exact T.nextP ⟨j + 1, false, n + x.n⟩ ⟨by dsimp only; omega, hq2.symm, by dsimp only; omega⟩ (by dsimp only; omega) zq8 (by repeat (first | exact Sel.refl _ | exact Sel.nil | (refine Sel.cons zq1 ?_) | (refine Sel.app zq1 ?_) | exact Sel.one zq1)) rfl
          · refine yq155 ?_; refine sy fun b9 => ?_; refine sa ?_; refine yq115 ?_; refine yq5 ?_; refine T.callV Wanted.none rfl rfl (hcx) ?_; refine yq197 ?_; refine yq137 ?_; refine gm ?_; refine gm ?_; refine gv (PV.geq rfl rfl) ?_; refine sT ?_; refine sa ?_; refine zs2 ?_; refine sm ?_; refine yq5 ?_; refine yq63 ?_; refine T.blkEnd ?_
            refine sr ?_; refine yq60 ?_
            rw [show decide ((i : Int) ≤ (j : Int)) = false from decide_eq_false (by omega)]
            exact T.nextP ⟨j + 1, false, n + x.n⟩ ⟨by dsimp only; omega, hq2.symm, by dsimp only; omega⟩ (by dsimp only; omega) zq8 (by repeat (first | exact Sel.refl _ | exact Sel.nil | (refine Sel.cons zq1 ?_) | (refine Sel.app zq1 ?_) | exact Sel.one zq1)) rfl
        · have hq2 : fstB (F.take (min (j + 1) i)) r.ks = q := by rw [j2, show min (j + 1) i = min j i by omega]
          cases q
          · refine yq155 ?_; refine sy fun b9 => ?_; refine sa ?_; refine yq115 ?_; refine yq5 ?_; refine T.callV Wanted.none rfl rfl (hcx) ?_; refine yq197 ?_; refine yq137 ?_; refine yq8 ?_; refine sp ?_; refine sF ?_; refine sa ?_; refine zs2 ?_; refine sm ?_; refine yq5 ?_; refine yq63 ?_; refine T.blkEnd ?_
            refine sr ?_; refine yq60 ?_
            exact T.nextP ⟨j + 1, false, n + x.n⟩ ⟨by dsimp only; omega, hq2.symm, by dsimp only; omega⟩ (by dsimp only; omega) zq8 (by repeat (first | exact Sel.refl _ | exact Sel.nil | (refine Sel.cons zq1 ?_) | (refine Sel.app zq1 ?_) | exact Sel.one zq1)) rfl
          · refine yq155 ?_; refine sy fun b9 => ?_; refine sa ?_; refine yq115 ?_; refine yq5 ?_; refine T.callV Wanted.none rfl rfl (hcx) ?_; refine yq197 ?_; refine yq137 ?_; refine gm ?_; refine gm ?_; refine gv (PV.geq rfl rfl) ?_; refine sT ?_; refine sa ?_; refine zs2 ?_; refine sm ?_; refine yq5 ?_; refine yq63 ?_; refine T.blkEnd ?_
            refine sr ?_; refine yq60 ?_
            rw [show decide ((i : Int) ≤ (j : Int)) = true from decide_eq_true (by omega)]
            exact T.nextP ⟨j + 1, true, n + x.n⟩ ⟨by dsimp only; omega, hq2.symm, by dsimp only; omega⟩ (by dsimp only; omega) zq8 (by repeat (first | exact Sel.refl _ | exact Sel.nil | (refine Sel.cons zq1 ?_) | (refine Sel.app zq1 ?_) | exact Sel.one zq1)) rfl
      · have hz : ¬ cX r.ks x.ks = 0 := fun h => e (hc0.1 h).symm
        rw [if_neg e] at htk
        have hq2 : fstB (F.take (min (j + 1) i)) r.ks = q := by
          rw [j2]
          by_cases hq : j < i
          · rw [show min (j + 1) i = j + 1 by omega, show min j i = j by omega, List.take_add_one, hFj]
            show fstB (F.take j ++ [rwK x]) r.ks = _
            rw [fstB_snoc, decide_eq_true (show (rwK x).1 ≠ r.ks from e), Bool.and_true]
          · rw [show min (j + 1) i = min j i by omega]
        refine yq155 ?_; refine sy fun b9 => ?_; refine sa ?_; refine yq115 ?_; refine yq5 ?_; refine T.callV Wanted.none rfl rfl (hcx) ?_; refine sv (PV.eql rfl rfl) ?_; refine yq88 ?_; refine yq61 ?_
        exact T.nextP ⟨j + 1, q, n⟩ ⟨by dsimp only; omega, hq2.symm, by dsimp only; omega⟩ (by dsimp only; omega) zq8 (by repeat (first | exact Sel.refl _ | exact Sel.nil | (refine Sel.cons zq1 ?_) | (refine Sel.app zq1 ?_) | exact Sel.one zq1)) rfl
    · have hFt : F.take j = F := List.take_of_length_le (by omega)
      rw [show min j i = i by omega] at j2
      rw [hFt] at j3
      subst j3
      cases q
      · have hm : (rwK r).1 ∈ dk (F.take i) := by
          by_cases h : r.ks ∈ dk (F.take i)
          · exact h
          · rw [fstB_dk.2 h] at j2; cases j2
        have hst := gotR_skip hFi hm
        refine yq74 ?_; refine yq14 ?_; refine sv (PV.not rfl) ?_; refine yq36 ?_; refine T.exit rfl ?_; refine sr ?_; refine yq60 ?_
        exact T.nextP ⟨i + 1, H6, _, A⟩ ⟨by dsimp only; omega, g2, g3, by dsimp only; rw [hst]; exact g4, by dsimp only; omega⟩ (by dsimp only; omega) zq8 (by repeat (first | exact Sel.refl _ | exact Sel.nil | (refine Sel.cons zq1 ?_) | (refine Sel.app zq1 ?_) | exact Sel.one zq1)) rfl
      · have hm : (rwK r).1 ∉ dk (F.take i) := fstB_dk.1 j2.symm
        have hst := gotR_push hFi hm
        obtain ⟨tn, htn⟩ : ∃ tn, tn = tot F r.ks := ⟨_, rfl⟩
        have hst2 : gotR F (i + 1) = gotR F i ++ [(r.ks, tn)] := by rw [hst, htn]; rfl
        rw [← htn]
        refine yq74 ?_; refine yq14 ?_; refine sv (PV.not rfl) ?_; refine yq92 ?_; refine zs3 ?_; (refine T.buildSlice Wanted.none rfl rfl zq11 (by exact rfl) (by exact rfl) ?_; intro b45); refine yq5 ?_; (refine T.appendP (lv := []) Wanted.none rfl rfl rfl (Vec.empty 9 1 _) hrs.src (RowL.one fun x _ => one_encT x) (by omega) zq1 ?_; intro v48 lv48 hv48 _; obtain ⟨ad48, cap48, rfl⟩ := hv48.val; refine T.freezeP (lv := lv48) hv48 zq1 ?_; intro H48 h48 hs48); refine sm ?_; refine sv (PV.build rfl zq12) ?_; refine sy fun b10 => ?_; refine yq13 ?_
        rw [Nat.zero_add, List.nil_append] at hs48
        rw [Nat.zero_add r.ks.length]
        clear hv48
        obtain ⟨y0, hy0⟩ : ∃ y0 : Rw, y0 = ⟨.slice ad48 r.ks.length cap48, r.ks, tn⟩ := ⟨_, rfl⟩
        have hy0k : y0.kv = .slice ad48 r.ks.length cap48 := by rw [hy0]
        have hy0n : y0.n = tn := by rw [hy0]
        have hy0ok : RwOk H48 y0 := by rw [hy0]; exact ⟨hs48, hrok.2⟩
        have hy0E : encRw y0 = [.slice ad48 r.ks.length cap48, .int .i64 tn] := by rw [hy0]; rfl
        have hone := one_encRw hy0ok
        rw [hy0E] at hone
        have g3' := g3.mono h48
        have hcap := g3.1.cap
        have hins : (insE (fun a b => ltR (rwK a) (rwK b)) A y0).map rwK = sortK ltR (gotR F (i + 1)) := by
          rw [hst2, sortK_snoc, ← g4]
          rw [← insE_map rwK (fun a b => ltR (rwK a) (rwK b)) ltR A y0 (fun y _ => rfl)]
          rw [hy0]; rfl
        refine yq2 ?_; refine sv (PV.lenSl rfl) ?_; refine yq0 ?_; refine yq17 ?_; refine T.cut2G [(10, Value.pointer (some { block := b10, off := 0 })), (14, Value.int IntKind.i64 (↑i : Int)), (3, Value.slice aA A.length cA), (13, Value.int IntKind.i64 (↑L.length : Int)), (12, Value.slice (some { block := bx, off := off }) L.length cm), (0, Value.slice (some { block := bx, off := off }) L.length cm)] (γ := Nat) (fun k => k = insK (fun a b => ltR (rwK a) (rwK b)) A y0 A.length ∧ k ≤ A.length) (fun k => [(11, .int .i64 (k : Int))]) (fun _ => [(b10, .cells #[.slice ad48 r.ks.length cap48, .int .i64 tn] 52 (0, 0))]) ?_ fun K => ?_
        · rintro k ⟨hk1, hk2⟩
          dsimp only [List.cons_append, List.nil_append]
          have hTo : ∀ y ∈ A.take k, RwOk H48 y := fun y hy => g3'.2 y (List.mem_of_mem_take hy)
          have hDo : ∀ y ∈ A.drop k, RwOk H48 y := fun y hy => g3'.2 y (List.mem_of_mem_drop hy)
          have e1 : (insE (fun a b => ltR (rwK a) (rwK b)) A y0).length = 0 + k + 1 + (A.length - k) := by rw [insE_length]; omega
          have e2 : (insE (fun a b => ltR (rwK a) (rwK b)) A y0).flatMap encRw = [] ++ (A.take k).flatMap encRw ++ [.slice ad48 r.ks.length cap48, .int .i64 tn] ++ (A.drop k).flatMap encRw := by
            unfold insE
            rw [← hk1, List.flatMap_append, List.flatMap_cons, hy0E]
            simp
          skip
          (repeat refine sq ?_)
          refine T.cut1P (γ := RsV) (fun g => Vec 52 2 g.v g.lv (0 + k + 1 + (A.length - k)) ([] ++ (A.take k).flatMap encRw ++ [.slice ad48 r.ks.length cap48, .int .i64 tn] ++ (A.drop k).flatMap encRw)) (fun g => (3, g.v) :: [(14, Value.int IntKind.i64 (↑i : Int)), (13, Value.int IntKind.i64 (↑L.length : Int)), (12, Value.slice (some { block := bx, off := off }) L.length cm), (0, Value.slice (some { block := bx, off := off }) L.length cm)]) (fun g => g.lv) ?_ fun K => ?_
          · rintro ⟨v9, lv9⟩ h9
            dsimp only at h9 ⊢
            refine T.freezeP (lv := lv9) h9 zq1 ?_
            intro H9 h69 hs9
            have hfin : RwL H9 v9 (insE (fun a b => ltR (rwK a) (rwK b)) A y0) := by
              refine ⟨by rw [e1, e2]; exact hs9, fun y hy => ?_⟩
              rcases List.mem_cons.1 ((insE_perm _ _ _).mem_iff.1 hy) with rfl | hy
              · exact hy0ok.mono h69
              · exact (g3'.2 y hy).mono h69
            refine yq61 ?_
            exact T.nextP ⟨i + 1, H9, _, insE (fun a b => ltR (rwK a) (rwK b)) A y0⟩ ⟨by dsimp only; omega, (g2.trans h48).trans h69, hfin, hins, by dsimp only; rw [insE_length]; omega⟩ (by dsimp only; omega) zq8 (by repeat (first | exact Sel.refl _ | exact Sel.nil | (refine Sel.cons zq1 ?_) | (refine Sel.app zq1 ?_) | exact Sel.one zq1)) rfl
          · refine T.regionS [(b10, .cells #[.slice ad48 r.ks.length cap48, .int .i64 tn] 52 (0, 0))] 12 (by kernel_rfl) ?_; refine TS.take 1 rfl (by kernel_rfl) (by kernel_rfl) (by kernel_rfl) (by kernel_rfl) (PV.move rfl) Wanted.none rfl rfl ?_; refine TS.take 2 rfl (by kernel_rfl) (by kernel_rfl) (by kernel_rfl) (by kernel_rfl) (PV.move rfl) Wanted.none rfl rfl ?_; refine TS.take 3 rfl (by kernel_rfl) (by kernel_rfl) (by kernel_rfl) (by kernel_rfl) (PV.sliceH rfl rfl (by omega)) Wanted.none rfl rfl ?_; refine TS.take 5 rfl (by kernel_rfl) (by kernel_rfl) (by kernel_rfl) (by kernel_rfl) (PV.loadAll rfl zq0 (by exact rfl)) Wanted.none rfl rfl ?_; refine TS.take 8 rfl (by kernel_rfl) (by kernel_rfl) (by kernel_rfl) (by kernel_rfl) (PV.move rfl) Wanted.none rfl rfl ?_; refine TS.take 9 rfl (by kernel_rfl) (by kernel_rfl) (by kernel_rfl) (by kernel_rfl) (PV.move rfl) Wanted.none rfl rfl ?_; refine TS.take 10 rfl (by kernel_rfl) (by kernel_rfl) (by kernel_rfl) (by kernel_rfl) (PV.sliceL rfl rfl (by omega)) Wanted.none rfl rfl ?_
            refine TS.ways [0, 6] (by kernel_rfl) rfl zq18 ⟨⟨_, rfl, ?_⟩, ⟨_, rfl, ?_⟩, trivial⟩
            · (refine T.buildSlice Wanted.none rfl rfl zq11 (by exact rfl) (by exact rfl) ?_; intro b66); refine yq24 ?_
              refine TS.ways [4, 6] (by kernel_rfl) rfl zq18 ⟨⟨_, rfl, ?_⟩, ⟨_, rfl, ?_⟩, trivial⟩
              · (refine T.appendP (lv := []) Wanted.none rfl rfl rfl (Vec.empty 52 2 _) (RwS.pre g3'.1 hk2).src (one_flatW hTo) (by omega) zq1 ?_; intro v70 lv70 hv70 _; obtain ⟨ad70, cap70, rfl⟩ := hv70.val); refine yq24 ?_
                refine TS.ways [6] (by kernel_rfl) rfl zq18 ⟨⟨_, rfl, ?_⟩, trivial⟩
                (refine T.buildSlice Wanted.none rfl rfl zq11 (by exact rfl) (by exact rfl) ?_; intro b72); refine yq24 ?_
                refine TS.ways [7] (by kernel_rfl) rfl zq18 ⟨⟨_, rfl, ?_⟩, trivial⟩
                (refine T.appendP (lv := lv70) Wanted.none rfl rfl rfl hv70 (Src.cells (m := 1) (ys := [.slice ad48 r.ks.length cap48, .int .i64 tn]) (.own zq2) rfl rfl) hone (by omega) zq1 ?_; intro v73 lv73 hv73 _; obtain ⟨ad73, cap73, rfl⟩ := hv73.val); refine yq24 ?_
                refine TS.ways [11] (by kernel_rfl) rfl zq18 ⟨⟨_, rfl, ?_⟩, trivial⟩
                (refine T.appendP (lv := lv73) Wanted.none rfl rfl rfl hv73 (RwS.suf g3'.1 hk2).src (one_flatW hDo) (by omega) zq1 ?_; intro v77 lv77 hv77 _; obtain ⟨ad77, cap77, rfl⟩ := hv77.val); refine yq24 ?_
                refine TS.ways [12] (by kernel_rfl) rfl zq18 ⟨⟨_, rfl, ?_⟩, trivial⟩
                refine yq0 ?_; refine yq109 ?_; (exact K ⟨_, lv77⟩ _ _ hv77 zq8 (by repeat (first | exact Sel.refl _ | exact Sel.nil | (refine Sel.cons zq1 ?_) | (refine Sel.app zq1 ?_) | exact Sel.one zq1)))
              · (refine T.buildSlice Wanted.none rfl rfl zq11 (by exact rfl) (by exact rfl) ?_; intro b72); refine yq24 ?_
                refine TS.ways [4] (by kernel_rfl) rfl zq18 ⟨⟨_, rfl, ?_⟩, trivial⟩
                (refine T.appendP (lv := []) Wanted.none rfl rfl rfl (Vec.empty 52 2 _) (RwS.pre g3'.1 hk2).src (one_flatW hTo) (by omega) zq1 ?_; intro v70 lv70 hv70 _; obtain ⟨ad70, cap70, rfl⟩ := hv70.val); refine yq24 ?_
                refine TS.ways [7] (by kernel_rfl) rfl zq18 ⟨⟨_, rfl, ?_⟩, trivial⟩
                (refine T.appendP (lv := lv70) Wanted.none rfl rfl rfl hv70 (Src.cells (m := 1) (ys := [.slice ad48 r.ks.length cap48, .int .i64 tn]) (.own zq2) rfl rfl) hone (by omega) zq1 ?_; intro v73 lv73 hv73 _; obtain ⟨ad73, cap73, rfl⟩ := hv73.val); refine yq24 ?_
                refine TS.ways [11] (by kernel_rfl) rfl zq18 ⟨⟨_, rfl, ?_⟩, trivial⟩
                (refine T.appendP (lv := lv73) Wanted.none rfl rfl rfl hv73 (RwS.suf g3'.1 hk2).src (one_flatW hDo) (by omega) zq1 ?_; intro v77 lv77 hv77 _; obtain ⟨ad77, cap77, rfl⟩ := hv77.val); refine yq24 ?_
                refine TS.ways [12] (by kernel_rfl) rfl zq18 ⟨⟨_, rfl, ?_⟩, trivial⟩
                refine yq0 ?_; refine yq109 ?_; (exact K ⟨_, lv77⟩ _ _ hv77 zq8 (by repeat (first | exact Sel.refl _ | exact Sel.nil | (refine Sel.cons zq1 ?_) | (refine Sel.app zq1 ?_) | exact Sel.one zq1)))
            · (refine T.buildSlice Wanted.none rfl rfl zq11 (by exact rfl) (by exact rfl) ?_; intro b72); refine yq24 ?_
              refine TS.ways [0] (by kernel_rfl) rfl zq18 ⟨⟨_, rfl, ?_⟩, trivial⟩
              (refine T.buildSlice Wanted.none rfl rfl zq11 (by exact rfl) (by exact rfl) ?_; intro b66); refine yq24 ?_
              refine TS.ways [4] (by kernel_rfl) rfl zq18 ⟨⟨_, rfl, ?_⟩, trivial⟩
              (refine T.appendP (lv := []) Wanted.none rfl rfl rfl (Vec.empty 52 2 _) (RwS.pre g3'.1 hk2).src (one_flatW hTo) (by omega) zq1 ?_; intro v70 lv70 hv70 _; obtain ⟨ad70, cap70, rfl⟩ := hv70.val); refine yq24 ?_
              refine TS.ways [7] (by kernel_rfl) rfl zq18 ⟨⟨_, rfl, ?_⟩, trivial⟩
              (refine T.appendP (lv := lv70) Wanted.none rfl rfl rfl hv70 (Src.cells (m := 1) (ys := [.slice ad48 r.ks.length cap48, .int .i64 tn]) (.own zq2) rfl rfl) hone (by omega) zq1 ?_; intro v73 lv73 hv73 _; obtain ⟨ad73, cap73, rfl⟩ := hv73.val); refine yq24 ?_
              refine TS.ways [11] (by kernel_rfl) rfl zq18 ⟨⟨_, rfl, ?_⟩, trivial⟩
              (refine T.appendP (lv := lv73) Wanted.none rfl rfl rfl hv73 (RwS.suf g3'.1 hk2).src (one_flatW hDo) (by omega) zq1 ?_; intro v77 lv77 hv77 _; obtain ⟨ad77, cap77, rfl⟩ := hv77.val); refine yq24 ?_
              refine TS.ways [12] (by kernel_rfl) rfl zq18 ⟨⟨_, rfl, ?_⟩, trivial⟩
              refine yq0 ?_; refine yq109 ?_; (exact K ⟨_, lv77⟩ _ _ hv77 zq8 (by repeat (first | exact Sel.refl _ | exact Sel.nil | (refine Sel.cons zq1 ?_) | (refine Sel.app zq1 ?_) | exact Sel.one zq1)))
        · refine T.loopK [(10, Value.pointer (some { block := b10, off := 0 })), (14, Value.int IntKind.i64 (↑i : Int)), (3, Value.slice aA A.length cA), (13, Value.int IntKind.i64 (↑L.length : Int)), (12, Value.slice (some { block := bx, off := off }) L.length cm), (0, Value.slice (some { block := bx, off := off }) L.length cm)] zq8 (γ := Nat) (fun k => k ≤ A.length ∧ insK (fun a b => ltR (rwK a) (rwK b)) A y0 A.length = insK (fun a b => ltR (rwK a) (rwK b)) A y0 k) (fun k => [(11, .int .i64 (k : Int))]) (fun _ => [(b10, .cells #[.slice ad48 r.ks.length cap48, .int .i64 tn] 52 (0, 0))]) (fun _ => H48) (fun k => k) A.length ⟨Nat.le_refl _, rfl⟩ zq8 (by repeat (first | exact Sel.refl _ | exact Sel.nil | (refine Sel.cons zq1 ?_) | (refine Sel.app zq1 ?_) | exact Sel.one zq1)) rfl ?_
          rintro k ⟨hk1, hk2⟩
          cases k with
          | zero =>
            have hj0 : decide ((0 : Int) < ((0 : Nat) : Int)) = false := rfl
            refine sq ?_; refine sq ?_; refine yq39 ?_; refine yq89 ?_; refine yq4 ?_; refine yq4 ?_; refine yq132 ?_; refine yq193 ?_; refine yq142 ?_
            refine K 0 _ _ ⟨by rw [hk2]; rfl, by omega⟩ ?_ ?_; (focus exact zq8); (focus exact (by repeat (first | exact Sel.refl _ | exact Sel.nil | (refine Sel.cons zq1 ?_) | (refine Sel.app zq1 ?_) | exact Sel.one zq1)))
          | succ j0 =>
            obtain ⟨bo, oo, y, rfl, hiy, hsuby⟩ := RowL.get encRw_len g3'.1 (show j0 < A.length by omega)
            have hyA := List.mem_of_getElem? hiy
            have hyok := g3'.2 y hyA
            obtain ⟨ay, cy, hyv⟩ := hyok.1.len
            unfold encRw at hsuby
            rw [hyv] at hsuby
            have hsb : SubC H48 bo (oo + (((j0 + 1 : Nat) : Int) - 1).toNat * 2) [.slice ay y.ks.length cy, .int .i64 y.n] := by
              rw [show (((j0 + 1 : Nat) : Int) - 1).toNat = j0 by omega]; exact hsuby
            have hbf := less_fn y0 y H48 hy0ok hyok
            unfold rwV at hbf
            rw [hyv, hy0k, hy0n] at hbf
            have hj0 : decide ((0 : Int) < ((j0 + 1 : Nat) : Int)) = true := decide_eq_true (by omega)
            cases hlt : ltR (rwK y0) (rwK y)
            · rw [hlt] at hbf
              have hin1 : insK (fun a b => ltR (rwK a) (rwK b)) A y0 (j0 + 1) = j0 + 1 := by
                rw [insK, hiy]; simp [hlt]
              skip
              (repeat refine sq ?_)
              refine T.regionO [(b10, .cells #[.slice ad48 r.ks.length cap48, .int .i64 tn] 52 (0, 0))] (by kernel_rfl) ?_; refine TO.take 0 rfl (by kernel_rfl) (by kernel_rfl) (by kernel_rfl) (PV.move rfl) Wanted.none rfl rfl ?_; refine TO.take 1 rfl (by kernel_rfl) (by kernel_rfl) (by kernel_rfl) (PV.gtr rfl rfl) Wanted.none rfl rfl ?_; refine TO.take 2 rfl (by kernel_rfl) (by kernel_rfl) (by kernel_rfl) (PV.move rfl) Wanted.none rfl rfl ?_; refine TO.take 3 rfl (by kernel_rfl) (by kernel_rfl) (by kernel_rfl) (PV.loadAll rfl zq0 (by exact rfl)) (Wanted.guard rfl rfl (by assumption)) rfl rfl ?_; refine yq164 ?_; refine TO.take 6 rfl (by kernel_rfl) (by kernel_rfl) (by kernel_rfl) (PV.sub rfl rfl (by omega)) (Wanted.guard rfl rfl (by assumption)) rfl rfl ?_; refine TO.take 7 rfl (by kernel_rfl) (by kernel_rfl) (by kernel_rfl) (PV.indexAddr rfl rfl (by omega)) (Wanted.guard rfl rfl (by assumption)) rfl rfl ?_; refine TO.take 8 rfl (by kernel_rfl) (by kernel_rfl) (by kernel_rfl) (PV.loadSubAll rfl (by assumption) (by exact rfl)) (Wanted.guard rfl rfl (by assumption)) rfl rfl ?_; refine TO.step 9 rfl (by kernel_rfl) zq4 zq17 ?_; refine T.callV (Wanted.guard rfl rfl (by assumption)) rfl rfl (hbf) ?_; refine yq62 ?_; refine TO.take 10 rfl (by kernel_rfl) (by kernel_rfl) (by kernel_rfl) (PV.pickT rfl (by assumption) rfl) Wanted.none rfl rfl ?_; refine TO.done (by kernel_rfl) zq4 zq17 ?_; refine yq142 ?_
              refine K (j0 + 1) _ _ ⟨by rw [hk2, hin1], hk1⟩ ?_ ?_; (focus exact zq8); (focus exact (by repeat (first | exact Sel.refl _ | exact Sel.nil | (refine Sel.cons zq1 ?_) | (refine Sel.app zq1 ?_) | exact Sel.one zq1)))
            · rw [hlt] at hbf
              have hin1 : insK (fun a b => ltR (rwK a) (rwK b)) A y0 (j0 + 1) = insK (fun a b => ltR (rwK a) (rwK b)) A y0 j0 := by
                rw [insK, hiy]; simp [hlt]
              skip
              (repeat refine sq ?_)
              refine T.regionO [(b10, .cells #[.slice ad48 r.ks.length cap48, .int .i64 tn] 52 (0, 0))] (by kernel_rfl) ?_; refine TO.take 0 rfl (by kernel_rfl) (by kernel_rfl) (by kernel_rfl) (PV.move rfl) Wanted.none rfl rfl ?_; refine TO.take 1 rfl (by kernel_rfl) (by kernel_rfl) (by kernel_rfl) (PV.gtr rfl rfl) Wanted.none rfl rfl ?_; refine TO.take 2 rfl (by kernel_rfl) (by kernel_rfl) (by kernel_rfl) (PV.move rfl) Wanted.none rfl rfl ?_; refine TO.take 3 rfl (by kernel_rfl) (by kernel_rfl) (by kernel_rfl) (PV.loadAll rfl zq0 (by exact rfl)) (Wanted.guard rfl rfl (by assumption)) rfl rfl ?_; refine yq164 ?_; refine TO.take 6 rfl (by kernel_rfl) (by kernel_rfl) (by kernel_rfl) (PV.sub rfl rfl (by omega)) (Wanted.guard rfl rfl (by assumption)) rfl rfl ?_; refine TO.take 7 rfl (by kernel_rfl) (by kernel_rfl) (by kernel_rfl) (PV.indexAddr rfl rfl (by omega)) (Wanted.guard rfl rfl (by assumption)) rfl rfl ?_; refine TO.take 8 rfl (by kernel_rfl) (by kernel_rfl) (by kernel_rfl) (PV.loadSubAll rfl (by assumption) (by exact rfl)) (Wanted.guard rfl rfl (by assumption)) rfl rfl ?_; refine TO.step 9 rfl (by kernel_rfl) zq4 zq17 ?_; refine T.callV (Wanted.guard rfl rfl (by assumption)) rfl rfl (hbf) ?_; refine yq62 ?_; refine TO.take 10 rfl (by kernel_rfl) (by kernel_rfl) (by kernel_rfl) (PV.pickT rfl (by assumption) rfl) Wanted.none rfl rfl ?_; refine TO.done (by kernel_rfl) zq4 zq17 ?_; refine T.condT rfl rfl ?_; refine T.skip ?_; refine T.block ?_; refine yq81 ?_; refine yq77 ?_; refine T.blkEnd ?_
              rw [show ((j0 + 1 : Nat) : Int) - 1 = (j0 : Int) by omega]
              exact T.nextP j0 ⟨by omega, hk2.trans hin1⟩ (Nat.lt_succ_self _) zq8 (by repeat (first | exact Sel.refl _ | exact Sel.nil | (refine Sel.cons zq1 ?_) | (refine Sel.app zq1 ?_) | exact Sel.one zq1)) rfl
  · have hil : i = F.length := by omega
    rw [hil, gotR_all] at g4
    refine yq74 ?_; refine yq140 ?_
    exact T.retF (Lv.fin (RV.tmp rfl rfl) ⟨A, g3, g4⟩)
end Go.Proofs.YthacphfjchpoaaaGreatDoor
