/- made corpora: what holds of them; one behind another one.
   made corpora: heads. -/
import Derived.Test.YthacphfjchpoaaaGreatDoorFM14
namespace Go.Proofs.YthacphfjchpoaaaGreatDoor
open Go.RowKit

def attrs3 : List (ByteArray × Bool) := [(bs [119, 111, 114, 100], false), (bs [116, 97, 103], false), (bs [102, 101, 97, 116], true)]
/-- texts that follow one another from p to q -/
def chain : Int → List Rg → Int → Prop
  | p, [], q => p = q
  | p, t :: l, q => t.b = p ∧ p < t.e ∧ chain t.e l q
theorem chain_app : ∀ {l : List Rg} {p q r : Int} {l' : List Rg}, chain p l q → chain q l' r → chain p (l ++ l') r
  | [], p, q, r, l', h, h' => by
    have h : p = q := h
    subst h; exact h'
  | t :: l, p, q, r, l', ⟨h1, h2, h3⟩, h' => ⟨h1, h2, chain_app h3 h'⟩
theorem chain_sh {n : Nat} : ∀ {l : List Rg} {p q : Int}, chain p l q → chain (p + n) (l.map (shR n)) (q + n)
  | [], p, q, h => by have h : p = q := h; subst h; exact rfl
  | t :: l, p, q, ⟨h1, h2, h3⟩ => ⟨by show t.b + n = p + n; omega, by show p + n < t.e + n; omega, chain_sh h3⟩
theorem chain_le : ∀ {l : List Rg} {p q : Int}, chain p l q → p ≤ q
  | [], p, q, h => by have h : p = q := h; omega
  | t :: l, p, q, ⟨h1, h2, h3⟩ => by have := chain_le h3; omega
theorem chain_mem : ∀ {l : List Rg} {p q : Int} {t : Rg}, chain p l q → t ∈ l → p ≤ t.b ∧ t.b < t.e ∧ t.e ≤ q
  | u :: l, p, q, t, ⟨h1, h2, h3⟩, hm => by
    rcases List.mem_cons.1 hm with rfl | hm
    · have := chain_le h3; exact ⟨by omega, by omega, this⟩
    · obtain ⟨k1, k2, k3⟩ := chain_mem h3 hm; exact ⟨by omega, k2, k3⟩
/-- two regions of one type do not cross -/
def apart (x y : Rg) : Prop := x.ty = y.ty → x.e ≤ y.b ∨ y.e ≤ x.b ∨ (x.b ≤ y.b ∧ y.e ≤ x.e) ∨ (y.b ≤ x.b ∧ x.e ≤ y.e)
structure CpG (c : Cp) : Prop where
  att : c.att = attrs3
  tk : ∀ t ∈ c.tk, t.ss.length = 3
  tk1 : 1 ≤ c.tk.length
  tx : chain 0 c.tx c.tk.length
  rgb : ∀ r ∈ c.rg, 0 ≤ r.b ∧ r.b < r.e ∧ r.e ≤ c.tk.length
  rgo : c.rg.Pairwise leR
  rga : ∀ x ∈ c.rg, ∀ y ∈ c.rg, apart x y
  nd : nodesOk c.tk.length c.nd
/-- not more than m documents bear -/
structure CpB (m : Nat) (c : Cp) : Prop where
  tk : c.tk.length ≤ 8 * m
  tx : c.tx.length ≤ m
  rg : c.rg.length ≤ 4 * m
  nd : c.nd.length ≤ 6 * m
  hd : c.hd.length + 24 ≤ 32 * m
  rl : c.rl.length + 24 ≤ 32 * m
theorem CpG.small {c : Cp} {m : Nat} (h : CpG c) (hb : CpB m c) (hm : m ≤ 6) : CpS c := by
  obtain ⟨b1, b2, b3, b4, b5, b6⟩ := hb
  have hn : nodesOk 1000 c.nd := fun i x hx => by
    obtain ⟨k1, k2, k3⟩ := h.nd i x hx
    exact ⟨⟨k1.1, k1.2.1, by omega⟩, k2, k3⟩
  refine ⟨by rw [h.att]; decide, by omega, by omega, by omega, by omega, by omega, by omega, fun r hr => ?_, fun r hr => ?_, hn⟩
  · have := chain_mem h.tx hr; omega
  · have := h.rgb r hr; omega
theorem cat_good {a b c : Cp} (hr : CatR a b c) (ha : CpG a) (hb : CpG b) : CpG c := by
  obtain ⟨r1, r2, r3, r4, r5, r6, r7⟩ := hr
  have hl : c.tk.length = a.tk.length + b.tk.length := by rw [r2, List.length_append]
  have hbR : ∀ r ∈ b.rg.map (shR a.tk.length), (a.tk.length : Int) ≤ r.b ∧ r.b < r.e ∧ r.e ≤ c.tk.length := by
    intro r hr
    obtain ⟨y, hy, rfl⟩ := List.mem_map.1 hr
    have := hb.rgb y hy
    rw [hl]
    show _ ≤ y.b + _ ∧ y.b + _ < y.e + _ ∧ y.e + _ ≤ _
    omega
  refine ⟨r1.trans ha.att, ?_, by have := ha.tk1; omega, ?_, ?_, ?_, ?_, ?_⟩
  · intro t ht
    rw [r2] at ht
    rcases List.mem_append.1 ht with h | h
    · exact ha.tk t h
    · exact hb.tk t h
  · rw [r3, hl]
    refine chain_app ha.tx ?_
    have := chain_sh (n := a.tk.length) hb.tx
    rw [Int.zero_add, Int.add_comm] at this
    exact_mod_cast this
  · intro r hr
    rw [r4] at hr
    rcases List.mem_append.1 hr with h | h
    · have := ha.rgb r h; rw [hl]; omega
    · have := hbR r h; omega
  · rw [r4, List.pairwise_append]
    refine ⟨ha.rgo, ?_, fun x hx y hy => ?_⟩
    · rw [List.pairwise_map]
      refine hb.rgo.imp fun {x y} h => ?_
      unfold leR at h ⊢
      show x.b + _ < y.b + _ ∨ (x.b + _ = y.b + _ ∧ y.e + _ ≤ x.e + _)
      omega
    · have h1 := ha.rgb x hx
      have h2 := hbR y hy
      unfold leR; omega
  · intro x hx y hy
    rw [r4] at hx hy
    rcases List.mem_append.1 hx with h1 | h1 <;> rcases List.mem_append.1 hy with h2 | h2
    · exact ha.rga x h1 y h2
    · have k1 := ha.rgb x h1
      have k2 := hbR y h2
      intro _; left; omega
    · have k1 := ha.rgb y h2
      have k2 := hbR x h1
      intro _; right; left; omega
    · obtain ⟨x', hx', rfl⟩ := List.mem_map.1 h1
      obtain ⟨y', hy', rfl⟩ := List.mem_map.1 h2
      have := hb.rga x' hx' y' hy'
      unfold apart at this ⊢
      intro he
      have := this he
      show x'.e + _ ≤ y'.b + _ ∨ y'.e + _ ≤ x'.b + _ ∨ (x'.b + _ ≤ y'.b + _ ∧ y'.e + _ ≤ x'.e + _) ∨ (y'.b + _ ≤ x'.b + _ ∧ x'.e + _ ≤ y'.e + _)
      omega
  · intro i x hx
    rw [r5] at hx
    rcases Nat.lt_or_ge i a.nd.length with h | h
    · rw [List.getElem?_append_left h] at hx
      obtain ⟨k1, k2, k3⟩ := ha.nd i x hx
      rw [hl]; exact ⟨⟨k1.1, k1.2.1, by omega⟩, k2, k3⟩
    · rw [List.getElem?_append_right h, List.getElem?_map] at hx
      cases hy : b.nd[i - a.nd.length]? with
      | none => rw [hy] at hx; cases hx
      | some y =>
        rw [hy] at hx
        cases hx
        obtain ⟨k1, k2, k3⟩ := hb.nd _ y hy
        rw [hl]
        unfold shN
        dsimp only
        refine ⟨⟨by omega, by omega, by omega⟩, ?_⟩
        split <;> omega
theorem cat_small {a b c : Cp} {m : Nat} (hr : CatR a b c) (ha : CpB m a) (hb : CpB 1 b) (hm : m ≤ 2) : CpB (m + 1) c := by
  obtain ⟨r1, r2, r3, r4, r5, r6, r7⟩ := hr
  obtain ⟨a1, a2, a3, a4, a5, a6⟩ := ha
  obtain ⟨b1, b2, b3, b4, b5, b6⟩ := hb
  refine ⟨by rw [r2, List.length_append]; omega, by rw [r3, List.length_append, List.length_map]; omega, by rw [r4, List.length_append, List.length_map]; omega, by rw [r5, List.length_append, List.length_map]; omega, by omega, by omega⟩
theorem CpB.mono {m m' : Nat} {c : Cp} (h : CpB m c) (hm : m ≤ m') : CpB m' c := by
  obtain ⟨a1, a2, a3, a4, a5, a6⟩ := h
  exact ⟨by omega, by omega, by omega, by omega, by omega, by omega⟩
end Go.Proofs.YthacphfjchpoaaaGreatDoor
namespace Go.Proofs.YthacphfjchpoaaaGreatDoor
open Go.RowKit

abbrev InV (v : Value) (lv : List (Nat × Obj)) (n : Nat) (l : List Int) : Prop := Vec 3 1 v lv n (l.flatMap encI)
abbrev StV (v : Value) (lv : List (Nat × Obj)) (n : Nat) (l : List ByteArray) : Prop := Vec 9 1 v lv n (l.flatMap encT)
theorem flatRep {α : Type} {enc : α → List Value} (n : Nat) (x : α) : (List.replicate n (enc x)).flatten = (List.replicate n x).flatMap enc := by
  simp [List.flatMap, List.map_replicate]
theorem InV.set {v : Value} {lv : List (Nat × Obj)} {n o : Nat} {x : Int} {l : List Int} (h : Vec 3 1 v lv n ((l.flatMap encI).set o (.int .i64 x))) : InV v lv n (l.set o x) := by
  rw [show (l.flatMap encI).set o (.int .i64 x) = (l.set o x).flatMap encI from flat_set (f := fun a => Value.int .i64 a) l _ _] at h; exact h
theorem StV.set {v : Value} {lv : List (Nat × Obj)} {n o : Nat} {x : ByteArray} {l : List ByteArray} (h : Vec 9 1 v lv n ((l.flatMap encT).set o (.string x))) : StV v lv n (l.set o x) := by
  rw [show (l.flatMap encT).set o (.string x) = (l.set o x).flatMap encT from flat_set (f := fun a => Value.string a) l _ _] at h; exact h
structure HoG where
  i : Nat
  t : Tp
  H : Hp
  v : Value
  l : List Int
structure HsG where
  t : Tp
  q : Bool
structure HpG where
  i : Nat
  t : Tp
  lv : List (Nat × Obj)
  hd : List Int
  lu : List (Nat × Obj)
  rl : List ByteArray
  q : Bool
structure HqG where
  v : Value
  lv : List (Nat × Obj)
structure HrG where
  v : Value
  lv : List (Nat × Obj)
  u : Value
  lu : List (Nat × Obj)
set_option maxHeartbeats 4000000 in
theorem heads_fn (bt bc : Nat) (t : Tp) (adt : Option Addr) (n capt : Nat) (va vx vr vn : Value) (H : Hp) (ht : t.ok H) (hn : 1 ≤ n ∧ n ≤ 100) :
    FnW Tryz.prog 55 #[.pointer (some ⟨bt, 0, none⟩), .pointer (some ⟨bc, 0, none⟩)] H [Tp.blk bt t, cpBlk bc va (.slice adt n capt) vx vr vn (.slice none 0 0) (.slice none 0 0)]
      (fun u H' l' => u = .tuple #[] ∧ ∃ t' vh vs hd rl, t'.ok H' ∧ InL H' vh hd ∧ StL H' vs rl ∧ hd.length = rl.length ∧ (hd.length = 0 ∨ hd.length = n) ∧ l' = [Tp.blk bt t', cpBlk bc va (.slice adt n capt) vx vr vn vh vs]) := by
  refine FnW.of_T (vs := [.pointer (some ⟨bt, 0, none⟩), .pointer (some ⟨bc, 0, none⟩)]) Tryz.func55 rfl rfl fun w => ?_
  unfold cpBlk
  refine yq2 ?_; refine sv (PV.nilCheck rfl) ?_; refine yq106 ?_; refine yq23 ?_; refine yq0 ?_; refine sq ?_; refine yq25 ?_; refine T.block ?_
  refine T.loop (γ := HoG) (fun g => g.i ≤ n ∧ H.le g.H ∧ g.t.ok g.H ∧ InL g.H g.v g.l ∧ g.l.length = g.i ∧ ∀ x ∈ g.l, 0 ≤ x ∧ x < n)
    (fun g => [(6, .int .i64 (g.i : Int)), (5, g.v), (4, .int .i64 (n : Int)), (0, .pointer (some ⟨bt, 0, none⟩)), (1, .pointer (some ⟨bc, 0, none⟩))])
    (fun g => [Tp.blk bt g.t, (bc, .cells #[va, .slice adt n capt, vx, vr, vn, .slice none 0 0, .slice none 0 0] 32 (0, 0))]) (fun g => g.H) (fun g => n - g.i) ⟨0, t, H, .slice none 0 0, []⟩ ⟨by simp, Hp.le.refl _, ht, SlR.empty, rfl, fun x h => by simp at h⟩ zq8 zq4 rfl ?_
  rintro ⟨i, t1, H1, v1, l1⟩ ⟨g1, g2, g3, g4, g5, g6⟩
  dsimp only at g1 g2 g3 g4 g5 g6 ⊢
  by_cases hi : i < n
  · refine yq14 ?_; refine sm ?_; refine yq3 ?_; refine yq33 ?_; refine yq137 ?_; refine sv (PV.add rfl rfl (by omega)) ?_; refine T.callW Wanted.none rfl rfl (next_fn bt t1 ((i : Int) + 1) _ g3 (by omega)) (.take .nil) ?_
    rintro _ _ _ _ ⟨rfl, k, t2, rfl, hk, ht2, rfl⟩
    obtain ⟨ad1, cap1, rfl⟩ := g4.len
    have hcap := g4.cap
    have hpre := RowL.pre encI_len g4 (k := k) (by omega)
    have hsuf := RowL.suf encI_len g4 (k := k) (by omega)
    have hl1 : (l1.take k.toNat).length = k.toNat := by rw [List.length_take]; omega
    have hl2 : (l1.drop k.toNat).length = i - k.toNat := by rw [List.length_drop, g5]
    refine yq0 ?_
    refine T.cut1P (fun (g : HqG) => InV g.v g.lv (i + 1) (l1.take k.toNat ++ (i : Int) :: l1.drop k.toNat))
      (fun g => [(5, g.v), (6, .int .i64 (i : Int)), (4, .int .i64 (n : Int)), (0, .pointer (some ⟨bt, 0, none⟩)), (1, .pointer (some ⟨bc, 0, none⟩))])
      (fun g => g.lv ++ [Tp.blk bt t2, (bc, .cells #[va, .slice adt n capt, vx, vr, vn, .slice none 0 0, .slice none 0 0] 32 (0, 0))]) ?_ fun K => ?_
    rotate_left
    · have hfin : ∀ (v : Value) (lv : List (Nat × Obj)), Vec 3 1 v lv (0 + (l1.take k.toNat).length + 1 + (l1.drop k.toNat).length) ([] ++ (l1.take k.toNat).flatMap encI ++ encI (i : Int) ++ (l1.drop k.toNat).flatMap encI) → InV v lv (i + 1) (l1.take k.toNat ++ (i : Int) :: l1.drop k.toNat) := by
        intro v lv h
        have e1 : 0 + (l1.take k.toNat).length + 1 + (l1.drop k.toNat).length = i + 1 := by omega
        have e2 : [] ++ (l1.take k.toNat).flatMap encI ++ encI (i : Int) ++ (l1.drop k.toNat).flatMap encI = (l1.take k.toNat ++ (i : Int) :: l1.drop k.toNat).flatMap encI := by simp
        rw [e1, e2] at h; exact h
      refine T.regionS [] 12 (by kernel_rfl) ?_; refine TS.take 1 rfl (by kernel_rfl) (by kernel_rfl) (by kernel_rfl) (by kernel_rfl) (PV.move rfl) Wanted.none rfl rfl ?_; refine TS.take 2 rfl (by kernel_rfl) (by kernel_rfl) (by kernel_rfl) (by kernel_rfl) (PV.move rfl) Wanted.none rfl rfl ?_; refine TS.take 3 rfl (by kernel_rfl) (by kernel_rfl) (by kernel_rfl) (by kernel_rfl) (PV.sliceH rfl rfl (by omega)) Wanted.none rfl rfl ?_; refine TS.take 5 rfl (by kernel_rfl) (by kernel_rfl) (by kernel_rfl) (by kernel_rfl) (PV.move rfl) Wanted.none rfl rfl ?_; refine TS.take 8 rfl (by kernel_rfl) (by kernel_rfl) (by kernel_rfl) (by kernel_rfl) (PV.move rfl) Wanted.none rfl rfl ?_; refine TS.take 9 rfl (by kernel_rfl) (by kernel_rfl) (by kernel_rfl) (by kernel_rfl) (PV.move rfl) Wanted.none rfl rfl ?_; refine TS.take 10 rfl (by kernel_rfl) (by kernel_rfl) (by kernel_rfl) (by kernel_rfl) (PV.sliceL rfl rfl (by omega)) Wanted.none rfl rfl ?_
      refine TS.ways [0, 6] (by kernel_rfl) rfl zq18 ⟨⟨_, rfl, ?_⟩, ⟨_, rfl, ?_⟩, trivial⟩
      · (refine T.buildSlice Wanted.none rfl rfl zq11 (by exact rfl) (by exact rfl) ?_; intro b27); refine yq24 ?_
        refine TS.ways [4, 6] (by kernel_rfl) rfl zq18 ⟨⟨_, rfl, ?_⟩, ⟨_, rfl, ?_⟩, trivial⟩
        · (refine T.appendP (lv := []) Wanted.none rfl rfl rfl (Vec.empty 3 1 _) hpre.src (RowL.one fun x _ => one_encI x) (by omega) zq1 ?_; intro v31 lv31 hv31 _); refine yq24 ?_
          refine TS.ways [6] (by kernel_rfl) rfl zq18 ⟨⟨_, rfl, ?_⟩, trivial⟩
          (refine T.buildSlice Wanted.none rfl rfl zq11 (by exact rfl) (by exact rfl) ?_; intro b33); refine yq24 ?_
          refine TS.ways [7] (by kernel_rfl) rfl zq18 ⟨⟨_, rfl, ?_⟩, trivial⟩
          (refine T.appendP (lv := lv31) Wanted.none rfl rfl rfl hv31 (Src.cells (m := 1) (ys := encI (i : Int)) (.own zq2) rfl rfl) (one_encI _) (by omega) zq1 ?_; intro v34 lv34 hv34 _); refine yq24 ?_
          refine TS.ways [11] (by kernel_rfl) rfl zq18 ⟨⟨_, rfl, ?_⟩, trivial⟩
          (refine T.appendP (lv := lv34) Wanted.none rfl rfl rfl hv34 hsuf.src (RowL.one fun x _ => one_encI x) (by omega) zq1 ?_; intro v38 lv38 hv38 _); refine yq24 ?_
          refine TS.ways [12] (by kernel_rfl) rfl zq18 ⟨⟨_, rfl, ?_⟩, trivial⟩
          refine yq0 ?_; refine yq109 ?_; (exact K ⟨_, lv38⟩ _ _ (hfin _ _ hv38) zq8 (by repeat (first | exact Sel.refl _ | exact Sel.nil | (refine Sel.cons zq1 ?_) | (refine Sel.app zq1 ?_) | exact Sel.one zq1)))
        · (refine T.buildSlice Wanted.none rfl rfl zq11 (by exact rfl) (by exact rfl) ?_; intro b33); refine yq24 ?_
          refine TS.ways [4] (by kernel_rfl) rfl zq18 ⟨⟨_, rfl, ?_⟩, trivial⟩
          (refine T.appendP (lv := []) Wanted.none rfl rfl rfl (Vec.empty 3 1 _) hpre.src (RowL.one fun x _ => one_encI x) (by omega) zq1 ?_; intro v31 lv31 hv31 _); refine yq24 ?_
          refine TS.ways [7] (by kernel_rfl) rfl zq18 ⟨⟨_, rfl, ?_⟩, trivial⟩
          (refine T.appendP (lv := lv31) Wanted.none rfl rfl rfl hv31 (Src.cells (m := 1) (ys := encI (i : Int)) (.own zq2) rfl rfl) (one_encI _) (by omega) zq1 ?_; intro v34 lv34 hv34 _); refine yq24 ?_
          refine TS.ways [11] (by kernel_rfl) rfl zq18 ⟨⟨_, rfl, ?_⟩, trivial⟩
          (refine T.appendP (lv := lv34) Wanted.none rfl rfl rfl hv34 hsuf.src (RowL.one fun x _ => one_encI x) (by omega) zq1 ?_; intro v38 lv38 hv38 _); refine yq24 ?_
          refine TS.ways [12] (by kernel_rfl) rfl zq18 ⟨⟨_, rfl, ?_⟩, trivial⟩
          refine yq0 ?_; refine yq109 ?_; (exact K ⟨_, lv38⟩ _ _ (hfin _ _ hv38) zq8 (by repeat (first | exact Sel.refl _ | exact Sel.nil | (refine Sel.cons zq1 ?_) | (refine Sel.app zq1 ?_) | exact Sel.one zq1)))
      · (refine T.buildSlice Wanted.none rfl rfl zq11 (by exact rfl) (by exact rfl) ?_; intro b33); refine yq24 ?_
        refine TS.ways [0] (by kernel_rfl) rfl zq18 ⟨⟨_, rfl, ?_⟩, trivial⟩
        (refine T.buildSlice Wanted.none rfl rfl zq11 (by exact rfl) (by exact rfl) ?_; intro b27); refine yq24 ?_
        refine TS.ways [4] (by kernel_rfl) rfl zq18 ⟨⟨_, rfl, ?_⟩, trivial⟩
        (refine T.appendP (lv := []) Wanted.none rfl rfl rfl (Vec.empty 3 1 _) hpre.src (RowL.one fun x _ => one_encI x) (by omega) zq1 ?_; intro v31 lv31 hv31 _); refine yq24 ?_
        refine TS.ways [7] (by kernel_rfl) rfl zq18 ⟨⟨_, rfl, ?_⟩, trivial⟩
        (refine T.appendP (lv := lv31) Wanted.none rfl rfl rfl hv31 (Src.cells (m := 1) (ys := encI (i : Int)) (.own zq2) rfl rfl) (one_encI _) (by omega) zq1 ?_; intro v34 lv34 hv34 _); refine yq24 ?_
        refine TS.ways [11] (by kernel_rfl) rfl zq18 ⟨⟨_, rfl, ?_⟩, trivial⟩
        (refine T.appendP (lv := lv34) Wanted.none rfl rfl rfl hv34 hsuf.src (RowL.one fun x _ => one_encI x) (by omega) zq1 ?_; intro v38 lv38 hv38 _); refine yq24 ?_
        refine TS.ways [12] (by kernel_rfl) rfl zq18 ⟨⟨_, rfl, ?_⟩, trivial⟩
        refine yq0 ?_; refine yq109 ?_; (exact K ⟨_, lv38⟩ _ _ (hfin _ _ hv38) zq8 (by repeat (first | exact Sel.refl _ | exact Sel.nil | (refine Sel.cons zq1 ?_) | (refine Sel.app zq1 ?_) | exact Sel.one zq1)))
    rintro ⟨v3, lv3⟩ h3
    dsimp only at h3 ⊢
    refine T.freezeP (lv := lv3) h3 zq1 ?_
    intro H2 hle2 hsl
    refine yq35 ?_; refine sm ?_; refine yq63 ?_
    have e3 : (i : Int) + 1 = ((i + 1 : Nat) : Int) := by omega
    have e4 : (l1.take k.toNat ++ (i : Int) :: l1.drop k.toNat).length = i + 1 := by rw [List.length_append, List.length_cons, hl1, hl2]; omega
    rw [e3]
    refine T.nextP ⟨i + 1, t2, H2, v3, l1.take k.toNat ++ (i : Int) :: l1.drop k.toNat⟩ ⟨by dsimp only; omega, g2.trans hle2, ht2.mono hle2, by show SlR H2 1 v3 _ _; rw [e4]; exact hsl, e4, ?_⟩ (by dsimp only; omega) zq8 (by repeat (first | exact Sel.refl _ | exact Sel.nil | (refine Sel.cons zq1 ?_) | (refine Sel.app zq1 ?_) | exact Sel.one zq1)) rfl
    intro x hx
    rcases List.mem_append.1 hx with h | h
    · exact g6 x (List.mem_of_mem_take h)
    · rcases List.mem_cons.1 h with h | h
      · subst h; omega
      · exact g6 x (List.mem_of_mem_drop h)
  have hin : i = n := by omega
  subst hin
  obtain ⟨ad1, cap1, rfl⟩ := g4.len
  obtain ⟨x0, hx0⟩ : ∃ z, l1[0]? = some z := ⟨_, List.getElem?_eq_getElem (by omega)⟩
  obtain ⟨bo, oo, rfl, _⟩ := RowL.at encI_len g4 hx0
  have hord : ∀ (m : Int), 0 ≤ m ∧ m < (i : Int) → ∃ y : Int, (0 ≤ y ∧ y < i) ∧ SubC H1 bo (oo + m.toNat * 1) [.int .i64 y] := fun m hm => by
    obtain ⟨y, hy⟩ : ∃ z, l1[m.toNat]? = some z := ⟨_, List.getElem?_eq_getElem (by omega)⟩
    have := RowL.atP encI_len g4 hy
    exact ⟨y, g6 y (List.mem_of_getElem? hy), this⟩
  have hlit : ∀ (m : Int), 0 ≤ m ∧ m < 3 → ∃ s : ByteArray, (strsV [bs [111, 98, 106], bs [100, 101, 116], bs []])[0 + m.toNat * 1]? = some (.string s) := fun m hm => by
    obtain ⟨s, _, h⟩ := strsV_at (l := [bs [111, 98, 106], bs [100, 101, 116], bs []]) (n := m) (by exact hm)
    exact ⟨s, h⟩
  refine yq14 ?_; refine sm ?_; refine yq3 ?_; refine yq16 ?_; refine sq ?_
  refine T.cut1P (fun (g : HrG) => InV g.v g.lv i (List.replicate i 0) ∧ StV g.u g.lu i (List.replicate i (bs [])))
    (fun g => [(8, g.v), (9, g.u), (4, .int .i64 (i : Int)), (5, .slice (some ⟨bo, oo, none⟩) l1.length cap1), (0, .pointer (some ⟨bt, 0, none⟩)), (1, .pointer (some ⟨bc, 0, none⟩))])
    (fun g => g.lv ++ (g.lu ++ [Tp.blk bt t1, (bc, .cells #[va, .slice adt i capt, vx, vr, vn, .slice none 0 0, .slice none 0 0] 32 (0, 0))])) ?_ fun K => ?_
  rotate_left
  · refine T.regionS [] 5 (by kernel_rfl) ?_; refine TS.take 0 rfl (by kernel_rfl) (by kernel_rfl) (by kernel_rfl) (by kernel_rfl) (PV.move rfl) Wanted.none rfl rfl ?_; refine TS.take 2 rfl (by kernel_rfl) (by kernel_rfl) (by kernel_rfl) (by kernel_rfl) (PV.move rfl) Wanted.none rfl rfl ?_
    refine TS.ways [1, 3] (by kernel_rfl) rfl zq18 ⟨⟨_, rfl, ?_⟩, ⟨_, rfl, ?_⟩, trivial⟩
    · (refine T.makeSliceN (n := i) Wanted.none rfl rfl rfl (by omega) ?_; intro v40 lv40 hv40); refine yq24 ?_; refine TS.take 4 rfl (by kernel_rfl) (by kernel_rfl) (by kernel_rfl) (by kernel_rfl) (PV.assign rfl) Wanted.none rfl rfl ?_
      refine TS.ways [3] (by kernel_rfl) rfl zq18 ⟨⟨_, rfl, ?_⟩, trivial⟩
      (refine T.makeSliceN (n := i) Wanted.none rfl rfl rfl (by omega) ?_; intro v42 lv42 hv42); refine yq24 ?_
      refine TS.ways [5] (by kernel_rfl) rfl zq18 ⟨⟨_, rfl, ?_⟩, trivial⟩
      refine yq0 ?_; refine yq109 ?_
      ((exact K ⟨_, _, _, _⟩ _ _ ⟨by show Vec _ _ _ _ _ _; rw [← flatRep]; exact hv40, by show Vec _ _ _ _ _ _; rw [← flatRep]; exact hv42⟩ zq8 (by repeat (first | exact Sel.refl _ | exact Sel.nil | (refine Sel.cons zq1 ?_) | (refine Sel.app zq1 ?_) | exact Sel.one zq1))))
    · (refine T.makeSliceN (n := i) Wanted.none rfl rfl rfl (by omega) ?_; intro v42 lv42 hv42); refine yq24 ?_
      refine TS.ways [1] (by kernel_rfl) rfl zq18 ⟨⟨_, rfl, ?_⟩, trivial⟩
      (refine T.makeSliceN (n := i) Wanted.none rfl rfl rfl (by omega) ?_; intro v40 lv40 hv40); refine yq24 ?_; refine TS.take 4 rfl (by kernel_rfl) (by kernel_rfl) (by kernel_rfl) (by kernel_rfl) (PV.assign rfl) Wanted.none rfl rfl ?_
      refine TS.ways [5] (by kernel_rfl) rfl zq18 ⟨⟨_, rfl, ?_⟩, trivial⟩
      refine yq0 ?_; refine yq109 ?_
      ((exact K ⟨_, _, _, _⟩ _ _ ⟨by show Vec _ _ _ _ _ _; rw [← flatRep]; exact hv40, by show Vec _ _ _ _ _ _; rw [← flatRep]; exact hv42⟩ zq8 (by repeat (first | exact Sel.refl _ | exact Sel.nil | (refine Sel.cons zq1 ?_) | (refine Sel.app zq1 ?_) | exact Sel.one zq1))))
  rintro ⟨v8, lv8, v9, lv9⟩ ⟨h8, h9⟩
  dsimp only at h8 h9 ⊢
  obtain ⟨b8, cap8, rfl⟩ := h8.ptr (by omega)
  obtain ⟨b9, cap9, rfl⟩ := h9.ptr (by omega)
  refine yq25 ?_; refine yq112 ?_
  refine T.loop (γ := HpG) (fun g => g.i ≤ i ∧ g.t.ok H1 ∧ InV (.slice (some ⟨b8, 0, none⟩) i cap8) g.lv i g.hd ∧ StV (.slice (some ⟨b9, 0, none⟩) i cap9) g.lu i g.rl ∧ g.hd.length = i ∧ g.rl.length = i)
    (fun g => [(45, .int .i64 (g.i : Int)), (10, .bool g.q), (44, .int .i64 (l1.length : Int)), (43, .slice (some ⟨bo, oo, none⟩) l1.length cap1), (8, .slice (some ⟨b8, 0, none⟩) i cap8), (9, .slice (some ⟨b9, 0, none⟩) i cap9), (5, .slice (some ⟨bo, oo, none⟩) l1.length cap1), (0, .pointer (some ⟨bt, 0, none⟩)), (1, .pointer (some ⟨bc, 0, none⟩))])
    (fun g => g.lv ++ (g.lu ++ [Tp.blk bt g.t, (bc, .cells #[va, .slice adt i capt, vx, vr, vn, .slice none 0 0, .slice none 0 0] 32 (0, 0))])) (fun g => H1) (fun g => i - g.i) ⟨0, t1, lv8, _, lv9, _, false⟩ ⟨by simp, g3, h8, h9, by simp, by simp⟩ zq8 zq4 rfl ?_
  rintro ⟨j, t2, lv, hd, lu, rl, q⟩ ⟨j1, j2, j3, j4, j5, j6⟩
  dsimp only at j1 j2 j3 j4 j5 j6 ⊢
  by_cases hj : j < i
  · obtain ⟨x, hxr, hx⟩ := hord j (by omega)
    rw [Int.toNat_natCast] at hx
    refine yq87 ?_; refine yq15 ?_; refine sa ?_; refine yq56 ?_; refine sm ?_; refine sv (PV.indexAddr rfl rfl (by omega)) ?_; refine T.storeVecP (lv := lv) Wanted.none rfl rfl rfl j3 (by rw [flat_len encI_len]; omega) zq1 ?_
    intro lv2 hv2
    rw [show (hd.flatMap encI).set (0 + x.toNat * 1) (.int .i64 (-1)) = (hd.set (0 + x.toNat * 1) (-1)).flatMap encI from flat_set (f := fun a => Value.int .i64 a) hd _ _] at hv2
    obtain ⟨hd2, hhd2⟩ : ∃ l, l = hd.set (0 + x.toNat * 1) (-1) := ⟨_, rfl⟩
    have hl2 : hd2.length = i := by rw [hhd2, List.length_set]; exact j5
    rw [← hhd2] at hv2
    refine so ?_; refine sq ?_; refine sq ?_
    refine T.cut1P (γ := HsG) (fun g => g.t.ok H1 ∧ (g.q = true → 0 < j))
      (fun g => [(59, .bool g.q), (11, .int .i64 (j : Int)), (12, .int .i64 x), (45, .int .i64 (j : Int)), (10, .bool q), (44, .int .i64 (l1.length : Int)), (43, .slice (some ⟨bo, oo, none⟩) l1.length cap1), (8, .slice (some ⟨b8, 0, none⟩) i cap8), (9, .slice (some ⟨b9, 0, none⟩) i cap9), (5, .slice (some ⟨bo, oo, none⟩) l1.length cap1), (0, .pointer (some ⟨bt, 0, none⟩)), (1, .pointer (some ⟨bc, 0, none⟩))])
      (fun g => lv2 ++ (lu ++ [Tp.blk bt g.t, (bc, .cells #[va, .slice adt i capt, vx, vr, vn, .slice none 0 0, .slice none 0 0] 32 (0, 0))])) ?_ fun K => ?_
    rotate_left
    · by_cases hj0 : 0 < j
      · have hd0 : decide (0 < (j : Int)) = true := decide_eq_true (by omega)
        refine yq81 ?_; refine sv (PV.gtr rfl rfl) ?_; refine sm ?_; refine T.pv (PV.move rfl) (Wanted.guard rfl rfl (by assumption)) rfl rfl ?_; (refine T.callW (Wanted.guard rfl rfl (by assumption)) rfl rfl (next_fn _ _ _ _ ?_ ?_) zq1 ?_; (focus assumption); (focus omega); rintro _ _ _ _ ⟨rfl, n57, t57, rfl, hn57, ht57, rfl⟩); refine T.pv (PV.gtr rfl rfl) (Wanted.guard rfl rfl (by assumption)) rfl rfl ?_; refine sv (PV.pickT rfl (by assumption) rfl) ?_; refine so ?_; (exact K ⟨t57, decide (0 < n57)⟩ _ _ ⟨ht57, fun _ => hj0⟩ zq8 (by repeat (first | exact Sel.refl _ | exact Sel.nil | (refine Sel.cons zq1 ?_) | (refine Sel.app zq1 ?_) | exact Sel.one zq1)))
      · have hd0 : decide (0 < (j : Int)) = false := decide_eq_false (by omega)
        refine yq81 ?_; refine sv (PV.gtr rfl rfl) ?_; refine sm ?_; refine yq57 ?_; refine T.pass (Unwanted.guard rfl rfl (by assumption)) rfl rfl ?_; refine sv (PV.pickF rfl (by assumption) rfl) ?_; refine so ?_; (exact K ⟨t2, false⟩ _ _ ⟨j2, fun h => by cases h⟩ zq8 (by repeat (first | exact Sel.refl _ | exact Sel.nil | (refine Sel.cons zq1 ?_) | (refine Sel.app zq1 ?_) | exact Sel.one zq1)))
    rintro ⟨t3, q3⟩ ⟨ht3, hq3⟩
    dsimp only at ht3 hq3 ⊢
    skip
    refine T.cut1P (γ := HpG) (fun g => g.t.ok H1 ∧ InV (.slice (some ⟨b8, 0, none⟩) i cap8) g.lv i g.hd ∧ StV (.slice (some ⟨b9, 0, none⟩) i cap9) g.lu i g.rl ∧ g.hd.length = i ∧ g.rl.length = i)
      (fun g => [(12, .int .i64 x), (45, .int .i64 (j : Int)), (10, .bool q), (44, .int .i64 (l1.length : Int)), (43, .slice (some ⟨bo, oo, none⟩) l1.length cap1), (8, .slice (some ⟨b8, 0, none⟩) i cap8), (9, .slice (some ⟨b9, 0, none⟩) i cap9), (5, .slice (some ⟨bo, oo, none⟩) l1.length cap1), (0, .pointer (some ⟨bt, 0, none⟩)), (1, .pointer (some ⟨bc, 0, none⟩))])
      (fun g => g.lv ++ (g.lu ++ [Tp.blk bt g.t, (bc, .cells #[va, .slice adt i capt, vx, vr, vn, .slice none 0 0, .slice none 0 0] 32 (0, 0))])) ?_ fun K => ?_
    rotate_left
    · refine T.cond rfl (fun hc => ?_) (fun hc => ?_)
      · have hj0 := hq3 hc
        skip
        refine T.regionS [] 18 (by kernel_rfl) ?_; refine yq131 ?_; refine TS.take 2 rfl (by kernel_rfl) (by kernel_rfl) (by kernel_rfl) (by kernel_rfl) (PV.move rfl) Wanted.none rfl rfl ?_; refine TS.take 3 rfl (by kernel_rfl) (by kernel_rfl) (by kernel_rfl) (by kernel_rfl) (PV.move rfl) Wanted.none rfl rfl ?_; refine TS.take 4 rfl (by kernel_rfl) (by kernel_rfl) (by kernel_rfl) (by kernel_rfl) (PV.move rfl) Wanted.none rfl rfl ?_; refine TS.take 5 rfl (by kernel_rfl) (by kernel_rfl) (by kernel_rfl) (by kernel_rfl) (PV.move rfl) Wanted.none rfl rfl ?_; refine TS.take 6 rfl (by kernel_rfl) (by kernel_rfl) (by kernel_rfl) (by kernel_rfl) (PV.move rfl) Wanted.none rfl rfl ?_; refine TS.take 11 rfl (by kernel_rfl) (by kernel_rfl) (by kernel_rfl) (by kernel_rfl) (PV.move rfl) Wanted.none rfl rfl ?_
        refine TS.ways [7, 10] (by kernel_rfl) rfl zq18 ⟨⟨_, rfl, ?_⟩, ⟨_, rfl, ?_⟩, trivial⟩
        · (refine T.callW Wanted.none rfl rfl (next_fn _ _ _ _ ?_ ?_) zq1 ?_; (focus assumption); (focus omega); rintro _ _ _ _ ⟨rfl, n67, t67, rfl, hn67, ht67, rfl⟩; obtain ⟨y67, hyr67, hy67⟩ := hord n67 ⟨hn67.1, Int.lt_trans hn67.2 (by omega)⟩); refine yq103 ?_; refine TS.take 9 rfl (by kernel_rfl) (by kernel_rfl) (by kernel_rfl) (by kernel_rfl) (PV.loadSub0 rfl (by assumption)) Wanted.none rfl rfl ?_
          refine TS.ways [10, 12] (by kernel_rfl) rfl zq18 ⟨⟨_, rfl, ?_⟩, ⟨_, rfl, ?_⟩, trivial⟩
          · (refine T.buildSlice Wanted.none rfl rfl zq11 (by exact rfl) (by exact rfl) ?_; intro b70); refine yq24 ?_
            refine TS.ways [12] (by kernel_rfl) rfl zq18 ⟨⟨_, rfl, ?_⟩, trivial⟩
            (refine T.callW Wanted.none rfl rfl (next_fn _ _ _ _ ?_ ?_) zq1 ?_; (focus assumption); (focus omega); rintro _ _ _ _ ⟨rfl, n72, t72, rfl, hn72, ht72, rfl⟩; obtain ⟨s72, hs72⟩ := hlit n72 hn72); refine yq24 ?_; refine TS.take 13 rfl (by kernel_rfl) (by kernel_rfl) (by kernel_rfl) (by kernel_rfl) (PV.indexAddr rfl rfl (by omega)) Wanted.none rfl rfl ?_
            refine TS.ways [14] (by kernel_rfl) rfl zq18 ⟨⟨_, rfl, ?_⟩, trivial⟩
            refine yq130 ?_; refine TS.take 15 rfl (by kernel_rfl) (by kernel_rfl) (by kernel_rfl) (by kernel_rfl) (PV.indexAddr rfl rfl (by omega)) Wanted.none rfl rfl ?_
            refine TS.ways [16] (by kernel_rfl) rfl zq18 ⟨⟨_, rfl, ?_⟩, trivial⟩
            (refine T.storeVecP (lv := lv2) Wanted.none rfl rfl rfl hv2 (by rw [flat_len encI_len]; omega) zq1 ?_; intro lvh hvh); refine yq24 ?_; refine TS.take 17 rfl (by kernel_rfl) (by kernel_rfl) (by kernel_rfl) (by kernel_rfl) (PV.indexAddr rfl rfl (by omega)) Wanted.none rfl rfl ?_
            refine TS.ways [18] (by kernel_rfl) rfl zq18 ⟨⟨_, rfl, ?_⟩, trivial⟩
            (refine T.storeVecP (lv := lu) Wanted.none rfl rfl rfl j4 (by rw [flat_len encT_len]; omega) zq1 ?_; intro lvr hvr); refine yq86 ?_
            ((exact K ⟨j, t72, lvh, _, lvr, _, q⟩ _ _ ⟨ht72, InV.set hvh, StV.set hvr, by rw [List.length_set]; exact hl2, by rw [List.length_set]; exact j6⟩ zq8 (by repeat (first | exact Sel.refl _ | exact Sel.nil | (refine Sel.cons zq1 ?_) | (refine Sel.app zq1 ?_) | exact Sel.one zq1))))
          · (refine T.callW Wanted.none rfl rfl (next_fn _ _ _ _ ?_ ?_) zq1 ?_; (focus assumption); (focus omega); rintro _ _ _ _ ⟨rfl, n72, t72, rfl, hn72, ht72, rfl⟩; obtain ⟨s72, hs72⟩ := hlit n72 hn72); refine yq24 ?_
            refine TS.ways [10] (by kernel_rfl) rfl zq18 ⟨⟨_, rfl, ?_⟩, trivial⟩
            (refine T.buildSlice Wanted.none rfl rfl zq11 (by exact rfl) (by exact rfl) ?_; intro b70); refine yq24 ?_; refine TS.take 13 rfl (by kernel_rfl) (by kernel_rfl) (by kernel_rfl) (by kernel_rfl) (PV.indexAddr rfl rfl (by omega)) Wanted.none rfl rfl ?_
            refine TS.ways [14] (by kernel_rfl) rfl zq18 ⟨⟨_, rfl, ?_⟩, trivial⟩
            refine yq130 ?_; refine TS.take 15 rfl (by kernel_rfl) (by kernel_rfl) (by kernel_rfl) (by kernel_rfl) (PV.indexAddr rfl rfl (by omega)) Wanted.none rfl rfl ?_
            refine TS.ways [16] (by kernel_rfl) rfl zq18 ⟨⟨_, rfl, ?_⟩, trivial⟩
            (refine T.storeVecP (lv := lv2) Wanted.none rfl rfl rfl hv2 (by rw [flat_len encI_len]; omega) zq1 ?_; intro lvh hvh); refine yq24 ?_; refine TS.take 17 rfl (by kernel_rfl) (by kernel_rfl) (by kernel_rfl) (by kernel_rfl) (PV.indexAddr rfl rfl (by omega)) Wanted.none rfl rfl ?_
            refine TS.ways [18] (by kernel_rfl) rfl zq18 ⟨⟨_, rfl, ?_⟩, trivial⟩
            (refine T.storeVecP (lv := lu) Wanted.none rfl rfl rfl j4 (by rw [flat_len encT_len]; omega) zq1 ?_; intro lvr hvr); refine yq86 ?_
            ((exact K ⟨j, t72, lvh, _, lvr, _, q⟩ _ _ ⟨ht72, InV.set hvh, StV.set hvr, by rw [List.length_set]; exact hl2, by rw [List.length_set]; exact j6⟩ zq8 (by repeat (first | exact Sel.refl _ | exact Sel.nil | (refine Sel.cons zq1 ?_) | (refine Sel.app zq1 ?_) | exact Sel.one zq1))))
        · (refine T.buildSlice Wanted.none rfl rfl zq11 (by exact rfl) (by exact rfl) ?_; intro b70); refine yq24 ?_
          refine TS.ways [7] (by kernel_rfl) rfl zq18 ⟨⟨_, rfl, ?_⟩, trivial⟩
          (refine T.callW Wanted.none rfl rfl (next_fn _ _ _ _ ?_ ?_) zq1 ?_; (focus assumption); (focus omega); rintro _ _ _ _ ⟨rfl, n67, t67, rfl, hn67, ht67, rfl⟩; obtain ⟨y67, hyr67, hy67⟩ := hord n67 ⟨hn67.1, Int.lt_trans hn67.2 (by omega)⟩); refine yq103 ?_; refine TS.take 9 rfl (by kernel_rfl) (by kernel_rfl) (by kernel_rfl) (by kernel_rfl) (PV.loadSub0 rfl (by assumption)) Wanted.none rfl rfl ?_
          refine TS.ways [12] (by kernel_rfl) rfl zq18 ⟨⟨_, rfl, ?_⟩, trivial⟩
          (refine T.callW Wanted.none rfl rfl (next_fn _ _ _ _ ?_ ?_) zq1 ?_; (focus assumption); (focus omega); rintro _ _ _ _ ⟨rfl, n72, t72, rfl, hn72, ht72, rfl⟩; obtain ⟨s72, hs72⟩ := hlit n72 hn72); refine yq24 ?_; refine TS.take 13 rfl (by kernel_rfl) (by kernel_rfl) (by kernel_rfl) (by kernel_rfl) (PV.indexAddr rfl rfl (by omega)) Wanted.none rfl rfl ?_
          refine TS.ways [14] (by kernel_rfl) rfl zq18 ⟨⟨_, rfl, ?_⟩, trivial⟩
          refine yq130 ?_; refine TS.take 15 rfl (by kernel_rfl) (by kernel_rfl) (by kernel_rfl) (by kernel_rfl) (PV.indexAddr rfl rfl (by omega)) Wanted.none rfl rfl ?_
          refine TS.ways [16] (by kernel_rfl) rfl zq18 ⟨⟨_, rfl, ?_⟩, trivial⟩
          (refine T.storeVecP (lv := lv2) Wanted.none rfl rfl rfl hv2 (by rw [flat_len encI_len]; omega) zq1 ?_; intro lvh hvh); refine yq24 ?_; refine TS.take 17 rfl (by kernel_rfl) (by kernel_rfl) (by kernel_rfl) (by kernel_rfl) (PV.indexAddr rfl rfl (by omega)) Wanted.none rfl rfl ?_
          refine TS.ways [18] (by kernel_rfl) rfl zq18 ⟨⟨_, rfl, ?_⟩, trivial⟩
          (refine T.storeVecP (lv := lu) Wanted.none rfl rfl rfl j4 (by rw [flat_len encT_len]; omega) zq1 ?_; intro lvr hvr); refine yq86 ?_
          ((exact K ⟨j, t72, lvh, _, lvr, _, q⟩ _ _ ⟨ht72, InV.set hvh, StV.set hvr, by rw [List.length_set]; exact hl2, by rw [List.length_set]; exact j6⟩ zq8 (by repeat (first | exact Sel.refl _ | exact Sel.nil | (refine Sel.cons zq1 ?_) | (refine Sel.app zq1 ?_) | exact Sel.one zq1))))
      · refine T.skip ?_; (exact K ⟨j, t3, lv2, _, lu, _, q⟩ _ _ ⟨ht3, hv2, j4, hl2, j6⟩ zq8 (by repeat (first | exact Sel.refl _ | exact Sel.nil | (refine Sel.cons zq1 ?_) | (refine Sel.app zq1 ?_) | exact Sel.one zq1)))
    rintro ⟨_, t4, lv4, hd4, lu4, rl4, _⟩ ⟨h1, h2, h3, h4, h5⟩
    dsimp only at h1 h2 h3 h4 h5 ⊢
    refine T.cut1P (γ := Bool) (fun _ => True)
      (fun q => [(45, .int .i64 (j : Int)), (10, .bool q), (44, .int .i64 (l1.length : Int)), (43, .slice (some ⟨bo, oo, none⟩) l1.length cap1), (8, .slice (some ⟨b8, 0, none⟩) i cap8), (9, .slice (some ⟨b9, 0, none⟩) i cap9), (5, .slice (some ⟨bo, oo, none⟩) l1.length cap1), (0, .pointer (some ⟨bt, 0, none⟩)), (1, .pointer (some ⟨bc, 0, none⟩))])
      (fun _ => lv4 ++ (lu4 ++ [Tp.blk bt t4, (bc, .cells #[va, .slice adt i capt, vx, vr, vn, .slice none 0 0, .slice none 0 0] 32 (0, 0))])) ?_ fun K => ?_
    rotate_left
    · obtain ⟨z, _, hz1, hz2⟩ := flat_at (f := fun a => Value.int .i64 a) (l := hd4) (n := x) (by omega)
      obtain ⟨s, _, hs1, hs2⟩ := flat_at (f := fun a => Value.string a) (l := rl4) (n := x) (by omega)
      have hz3 : (hd4.flatMap encI)[0 + x.toNat * 1]? = some (.int .i64 z) := hz2
      have hs3 : (rl4.flatMap encT)[0 + x.toNat * 1]? = some (.string s) := hs2
      refine yq81 ?_; refine sm ?_
      refine T.splitB (d := 78) rfl (fun h0 => ?_) (fun h0 => ?_)
      · refine yq143 ?_; refine yq141 ?_; refine yq143 ?_; refine sT ?_; refine yq0 ?_; (exact K _ _ _ trivial zq8 (by repeat (first | exact Sel.refl _ | exact Sel.nil | (refine Sel.cons zq1 ?_) | (refine Sel.app zq1 ?_) | exact Sel.one zq1)))
      · refine gm ?_; refine gm ?_; refine gv (PV.indexAddr rfl rfl (by omega)) ?_; refine gv (PV.loadVec rfl (by assumption) zq4 (by assumption)) ?_; refine gv (PV.neq rfl rfl) ?_; refine yq90 ?_
        refine T.splitD (d := 85) rfl (fun h1 => ?_) (fun h1 => ?_)
        · refine yq143 ?_; refine sT ?_; refine yq0 ?_; (exact K _ _ _ trivial zq8 (by repeat (first | exact Sel.refl _ | exact Sel.nil | (refine Sel.cons zq1 ?_) | (refine Sel.app zq1 ?_) | exact Sel.one zq1)))
        · refine gm ?_; refine gm ?_; refine gv (PV.indexAddr rfl rfl (by omega)) ?_; refine gv (PV.loadVec rfl (by assumption) zq4 (by assumption)) ?_; refine gv (PV.sneq rfl rfl) ?_; refine yq118 ?_; (exact K _ _ _ trivial zq8 (by repeat (first | exact Sel.refl _ | exact Sel.nil | (refine Sel.cons zq1 ?_) | (refine Sel.app zq1 ?_) | exact Sel.one zq1)))
    intro q4 _
    refine yq61 ?_
    rw [show (j : Int) + 1 = ((j + 1 : Nat) : Int) by omega]
    exact T.nextP ⟨j + 1, t4, lv4, hd4, lu4, rl4, q4⟩ ⟨by dsimp only; omega, h1, h2, h3, h4, h5⟩ (by dsimp only; omega) zq8 (by repeat (first | exact Sel.refl _ | exact Sel.nil | (refine Sel.cons zq1 ?_) | (refine Sel.app zq1 ?_) | exact Sel.one zq1)) rfl
  have hin : InL H1 (.slice none 0 0) [] := SlR.empty
  have hst : StL H1 (.slice none 0 0) [] := SlR.empty
  cases q
  · refine yq74 ?_; refine yq2 ?_; refine yq92 ?_
    exact T.fallW (Lv.finW [_, _] (List.sublist_append_of_sublist_right (List.sublist_append_of_sublist_right (List.Sublist.refl _))) (RV.none rfl) ⟨rfl, t2, _, _, [], [], j2, hin, hst, rfl, .inl rfl, rfl⟩)
  · refine yq74 ?_; refine yq2 ?_; refine yq36 ?_; refine yq81 ?_; refine yq162 ?_; refine sm ?_; refine sv (PV.nilCheck rfl) ?_; refine yq116 ?_; refine sv (PV.nilCheck rfl) ?_; refine yq116 ?_; refine so ?_; refine T.freezeP (lv := lv) j3 zq1 ?_
    intro Ha hla hsa
    refine T.freezeP (lv := lu) j4 zq1 ?_
    intro Hb hlb hsb
    exact T.fallW (Lv.finW _ (List.Sublist.refl _) (RV.none rfl) ⟨rfl, t2, _, _, hd, rl, (j2.mono hla).mono hlb, InL.of j5 (hsa.mono hlb), StL.of j6 hsb, by rw [j5, j6], .inr j5, rfl⟩)
end Go.Proofs.YthacphfjchpoaaaGreatDoor
