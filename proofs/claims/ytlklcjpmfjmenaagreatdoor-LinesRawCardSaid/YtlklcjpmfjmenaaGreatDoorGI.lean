/- lines: codepoint: Fold, Reverse.
   lines: the reference of codepoint: Fold, Reverse. -/
import Derived.Test.YtlklcjpmfjmenaaGreatDoorG6
namespace Go.Proofs.YtlklcjpmfjmenaaGreatDoor
open Go.RowKit

def encU (u : U) : List Value := [.agg #[.int .i32 (u.r : Int), .int .i64 (u.at_ : Int), .int .i64 (u.sz : Int)]]

structure UnG where
  n : Nat
  p : Nat
  k : Nat
  r : Int
  at_ : Int
  sz : Int
  lc : List (Nat × Obj)
  H : Hp

set_option maxHeartbeats 1000000 in
theorem units_iter (s : ByteArray) (bs : Nat) (H : Hp) (fz : Nat × Nat) (hs : s.size ≤ 140737488355328) (hbs : H bs = some (.cells #[.string s] 9 fz)) :
    Iter Tryz.prog 103 [.pointer (some ⟨bs, 0, none⟩)] H (units s) encU := by
  refine Iter.of_T Tryz.func103 rfl rfl fun x0 L I Ix hY lc Hc h0 hle => ?_
  have hbs' := hle _ _ hbs
  refine sq ?_
  refine sr ?_
  refine sv (PV.build rfl zq12) ?_
  refine sy fun b3 => ?_
  refine T.storeA Wanted.none rfl rfl zq8 (by exact rfl) zq14 zq13 ?_
  refine so ?_
  refine sq ?_
  refine sq ?_
  refine sr ?_
  refine sl ?_
  (refine T.rangeStr Wanted.none rfl rfl ?_; intro b8)
  refine so ?_
  refine T.block ?_
  refine T.loop (γ := UnG) (fun g => I g.k g.lc g.H ∧ Hc.le g.H ∧ s.size ≤ g.p + g.n ∧ g.p ≤ s.size ∧ -1 ≤ g.at_ ∧ g.at_ ≤ g.p ∧
      ((g.at_ = -1 ∧ g.k = 0 ∧ g.p = 0 ∧ units s = unitsFrom s g.n 0) ∨ ∃ r a : Nat, g.r = r ∧ g.at_ = a ∧ a ≤ g.p ∧ (units s).drop g.k = ⟨r, a, g.p - a⟩ :: unitsFrom s g.n g.p))
    (fun g => [(0, .func (.yield L) #[] #[]), (1, .pointer (some ⟨bs, 0, none⟩)), (3, .pointer (some ⟨b3, 0, none⟩)), (8, .pointer (some ⟨b8, 0, none⟩))])
    (fun g => (b8, .stringIter s g.p) :: (b3, .cells #[.int .i32 g.r, .int .i64 g.at_, .int .i64 g.sz] 130 (0, 0)) :: g.lc)
    (fun g => g.H) (fun g => g.n) ⟨s.size, 0, 0, 0, -1, 0, lc, Hc⟩ ⟨h0, Hp.le.refl _, by simp, by simp, by simp, by simp, .inl ⟨rfl, rfl, rfl, rfl⟩⟩ zq8 zq4 rfl ?_
  rintro ⟨n, p, k, r, at_, sz, lc, Hk⟩ ⟨hI, hHk, h2, h3, h4, h5, h6⟩
  dsimp only at hI hHk h2 h3 h4 h5 h6 ⊢
  have hbk := hHk _ _ hbs'
  refine sq ?_
  refine sr ?_
  by_cases hp : p < s.size
  · obtain ⟨d1, d2, d3⟩ := decode_width s p hp
    obtain ⟨rr, wd, hd⟩ : ∃ r wd, Utf8.decode s p = (r, wd) := ⟨_, _, rfl⟩
    rw [hd] at d1 d2 d3
    dsimp only at d1 d2 d3
    obtain ⟨n, rfl⟩ : ∃ m, n = m + 1 := ⟨n - 1, by omega⟩
    refine T.nextStr (by first | exact Wanted.none | exact Wanted.guard rfl rfl (by first | rfl | assumption)) rfl rfl (by assumption) (by assumption) zq14 ?_
    rcases h6 with ⟨rfl, rfl, rfl, h7⟩ | ⟨r, a, rfl, rfl, ha, h7⟩
    · refine sv (PV.extract rfl rfl) ?_
      refine so ?_
      refine sq ?_
      refine T.condT rfl rfl ?_
      refine T.skip ?_
      refine T.block ?_
      refine sq ?_
      refine sr ?_
      refine sv (PV.extract rfl rfl) ?_
      refine sv (PV.extract rfl rfl) ?_
      refine sa ?_
      refine sa ?_
      refine so ?_
      refine sq ?_
      refine sr ?_
      refine sm ?_
      refine sf ?_
      refine sl ?_
      refine sv (PV.sub rfl rfl (by omega)) ?_
      refine sf ?_
      refine T.store1 Wanted.none rfl rfl rfl zq14 zq13 ?_
      refine so ?_
      refine sq ?_
      refine sq ?_
      refine sr ?_
      refine sf ?_
      refine sl ?_
      refine sv (PV.geq rfl rfl) ?_
      refine sm ?_
      refine sp ?_
      refine sp ?_
      refine sp ?_
      refine sp ?_
      refine sF ?_
      refine so ?_
      refine T.condF rfl rfl ?_
      refine T.skip ?_
      refine sr ?_
      refine sm ?_
      refine sm ?_
      refine sv (PV.build rfl zq12) ?_
      refine T.storeA Wanted.none rfl rfl zq8 (by exact rfl) zq14 zq13 ?_
      refine so ?_
      refine T.blkEnd ?_
      refine T.next ⟨n, 0 + wd, 0, rr, 0, 0, lc, Hk⟩ ⟨hI, hHk, by dsimp only; omega, by dsimp only; omega, by dsimp only; omega, by dsimp only; omega, .inr ⟨rr, 0, rfl, rfl, by dsimp only; omega, ?_⟩⟩ (by dsimp only; omega) zq8 zq4 rfl
      rw [h7, unitsFrom, if_pos hp, hd]; simp
    · refine sv (PV.extract rfl rfl) ?_
      refine so ?_
      refine sq ?_
      refine T.condT rfl rfl ?_
      refine T.skip ?_
      refine T.block ?_
      refine sq ?_
      refine sr ?_
      refine sv (PV.extract rfl rfl) ?_
      refine sv (PV.extract rfl rfl) ?_
      refine sa ?_
      refine sa ?_
      refine so ?_
      refine sq ?_
      refine sr ?_
      refine sm ?_
      refine sf ?_
      refine sl ?_
      refine sv (PV.sub rfl rfl (by omega)) ?_
      refine sf ?_
      refine T.store1 Wanted.none rfl rfl rfl zq14 zq13 ?_
      refine so ?_
      refine sq ?_
      refine sq ?_
      refine sr ?_
      refine sf ?_
      refine sl ?_
      refine sv (PV.geq rfl rfl) ?_
      refine sm ?_
      refine gm ?_
      refine gv (PV.loadAll rfl zq0 (by exact rfl)) ?_
      refine T.setT (d := 21) rfl (by omega) ?_
      have hk : (units s)[k]? = some ⟨r, a, p - a⟩ := by have := congrArg (fun l => l[0]?) h7; simpa using this
      have hcast : ((p - a : Nat) : Int) = (p : Int) - a := by omega
      refine T.yield (li := [_, _]) hY (Wanted.guard rfl rfl rfl) rfl rfl hk (by show _ = some [Value.agg #[.int .i32 (r : Int), .int .i64 (a : Int), .int .i64 ((p - a : Nat) : Int)]]; rw [hcast]; rfl) hI ?_ ?_
      · intro lc' H' hle' hI'
        refine gv (PV.not rfl) ?_
        refine sT ?_
        refine so ?_
        refine T.condF rfl rfl ?_
        refine T.skip ?_
        refine sr ?_
        refine sm ?_
        refine sm ?_
        refine sv (PV.build rfl zq12) ?_
        refine T.storeA Wanted.none rfl rfl zq8 (by exact rfl) zq14 zq13 ?_
        refine so ?_
        refine T.blkEnd ?_
        refine T.next ⟨n, p + wd, k + 1, rr, p, 0, lc', H'⟩ ⟨hI', hHk.trans hle', by dsimp only; omega, by dsimp only; omega, by dsimp only; omega, by dsimp only; omega, .inr ⟨rr, p, rfl, rfl, by dsimp only; omega, ?_⟩⟩ (by dsimp only; omega) zq8 zq4 rfl
        have h8 : (units s).drop (k + 1) = unitsFrom s (n + 1) p := by rw [← List.drop_drop, h7]; rfl
        dsimp only
        rw [h8, unitsFrom, if_pos hp, hd, Nat.add_sub_cancel_left]
      · intro lc' H' hle' hI'
        refine gv (PV.not rfl) ?_
        refine sT ?_
        refine so ?_
        refine T.condT rfl rfl ?_
        exact T.retI rfl lc' zq4 (hHk.trans hle') (.inr hI')
  · refine T.nextStrEnd (by first | exact Wanted.none | exact Wanted.guard rfl rfl (by first | rfl | assumption)) rfl rfl zq2 (by omega) ?_
    rcases h6 with ⟨rfl, rfl, rfl, h7⟩ | ⟨r, a, rfl, rfl, ha, h7⟩
    · refine sv (PV.extract rfl rfl) ?_
      refine so ?_
      refine sq ?_
      refine T.condF rfl rfl ?_
      refine T.exit rfl ?_
      refine sq ?_
      refine sr ?_
      refine sl ?_
      refine sv (PV.lenStr rfl) ?_
      refine sf ?_
      refine sl ?_
      refine sv (PV.sub rfl rfl (by omega)) ?_
      refine sf ?_
      refine T.store1 Wanted.none rfl rfl rfl zq14 zq13 ?_
      refine so ?_
      refine sq ?_
      refine sr ?_
      refine sf ?_
      refine sl ?_
      refine sv (PV.geq rfl rfl) ?_
      refine so ?_
      refine T.condF rfl rfl ?_
      refine T.skip ?_
      have h0 : units s = [] := by rw [h7]; cases n <;> simp [unitsFrom, hp]
      refine T.fallI rfl lc zq4 hHk (.inl ?_)
      rw [h0]; exact hI
    · refine sv (PV.extract rfl rfl) ?_
      refine so ?_
      refine sq ?_
      refine T.condF rfl rfl ?_
      refine T.exit rfl ?_
      refine sq ?_
      refine sr ?_
      refine sl ?_
      refine sv (PV.lenStr rfl) ?_
      refine sf ?_
      refine sl ?_
      refine sv (PV.sub rfl rfl (by omega)) ?_
      refine sf ?_
      refine T.store1 Wanted.none rfl rfl rfl zq14 zq13 ?_
      refine so ?_
      refine sq ?_
      refine sr ?_
      refine sf ?_
      refine sl ?_
      refine sv (PV.geq rfl rfl) ?_
      refine so ?_
      refine T.condT rfl rfl ?_
      refine sr ?_
      refine sm ?_
      refine sv (PV.loadAll rfl zq0 (by exact rfl)) ?_
      have hp0 : p = s.size := by omega
      have h8 : unitsFrom s n p = [] := by cases n <;> simp [unitsFrom, hp]
      rw [h8] at h7
      have hk : (units s)[k]? = some ⟨r, a, p - a⟩ := by have := congrArg (fun l => l[0]?) h7; simpa using this
      have hlen : (units s).length = k + 1 := by
        have := congrArg List.length h7
        simp at this
        have h9 := (List.getElem?_eq_some_iff.1 hk).1
        omega
      have hcast : ((p - a : Nat) : Int) = (s.size : Int) - a := by omega
      refine T.yield (li := [_, _]) hY Wanted.none rfl rfl hk (by show _ = some [Value.agg #[.int .i32 (r : Int), .int .i64 (a : Int), .int .i64 ((p - a : Nat) : Int)]]; rw [hcast]; rfl) hI ?_ ?_
      · intro lc' H' hle' hI'
        refine so ?_
        exact T.fallI rfl lc' zq4 (hHk.trans hle') (.inl (by rw [hlen]; exact hI'))
      · intro lc' H' hle' hI'
        refine so ?_
        exact T.fallI rfl lc' zq4 (hHk.trans hle') (.inr hI')

theorem units_fn (s : ByteArray) (H : Hp) : Fn Tryz.prog 86 #[.string s] H (fun v H' => ∃ bs, v = .func (.func 103) #[] #[.pointer (some ⟨bs, 0, none⟩)] ∧ H' bs = some (.cells #[.string s] 9 (0, 0))) := by
  refine Fn.of_T (vs := [.string s]) Tryz.func86 rfl rfl fun w => ?_
  refine sq ?_
  refine sr ?_
  (refine T.box Wanted.none rfl rfl zq15 ?_; intro b1)
  refine sa ?_
  refine so ?_
  refine sq ?_
  refine sr ?_
  refine sv (PV.makeFunc rfl) ?_
  refine sa ?_
  refine so ?_
  refine T.retF (Lv.freeze (Lv.fin (RV.tmp rfl rfl) ⟨_, rfl, Hp.put_same⟩))

def cellsU (u : U) : List Value := [.int .i32 (u.r : Int), .int .i64 (u.at_ : Int), .int .i64 (u.sz : Int)]
theorem one_cellsU (us : List U) : ∀ v ∈ us.flatMap cellsU, v.oneCell' = true := by
  intro v hv
  obtain ⟨u, _, hu⟩ := List.mem_flatMap.1 hv
  simp [cellsU] at hu
  rcases hu with rfl | rfl | rfl <;> rfl
set_option maxHeartbeats 1000000 in
theorem list_fn (s : ByteArray) (H : Hp) (hs : s.size ≤ 20000) : Fn Tryz.prog 88 #[.string s] H (fun v H' => SlR H' 3 v (units s).length ((units s).flatMap cellsU)) := by
  refine Fn.of_T (vs := [.string s]) Tryz.func88 rfl rfl fun w => ?_
  refine sq ?_
  refine sr ?_
  refine sa ?_
  refine so ?_
  refine sq ?_
  refine sr ?_
  refine sy fun b3 => ?_
  refine so ?_
  refine sq ?_
  refine sq ?_
  refine sr ?_
  refine sm ?_
  refine T.call Wanted.none rfl rfl (units_fn s H) ?_
  rintro _ H1 hH1 ⟨bs, rfl, hb⟩
  refine so ?_
  refine T.block ?_
  have hul := units_len s
  refine T.rangeFunc rfl rfl (units_iter s bs H1 _ (by omega) hb) (fun _ => rfl) rfl (by decide)
    (fun n lk _ => ∃ v lv, lk = (b3, .cells #[v] 132 (0, 0)) :: lv ∧ Vec 130 3 v lv n (((units s).take n).flatMap cellsU))
    (fun c lk _ => False)
    ⟨_, [], rfl, Vec.nil _ _⟩ ?_ ?_ ?_
  · rintro n x lk Hk hx ⟨v, lv, rfl, hv⟩ hle L rec lo hrec
    have hn := (List.getElem?_eq_some_iff.1 hx).1
    obtain ⟨ad, cap, rfl⟩ := hv.val
    refine sr ?_
    refine sy fun b4 => ?_
    refine T.storeA Wanted.none rfl rfl zq8 (by exact rfl) zq14 zq13 ?_
    refine so ?_
    refine T.begin (lk := _ :: _ :: lv) hrec ?_
    refine T.block ?_
    refine sr ?_
    refine sl ?_
    refine sv (PV.loadAll rfl zq0 (by exact rfl)) ?_
    (refine T.buildSlice Wanted.none rfl rfl zq11 (by exact rfl) (by exact rfl) ?_; intro b10)
    refine T.append [_, _, _] Wanted.none rfl rfl rfl hv (Src.cells (m := 1) (ys := cellsU x) (.own zq2) rfl rfl) (fun v hv => one_cellsU [x] v (by simpa using hv)) (by omega) ?_
    intro v' lv' hv' hnil
    obtain ⟨ad', cap', rfl⟩ := hv'.val
    refine T.store1 Wanted.none rfl rfl rfl zq14 zq13 ?_
    refine so ?_
    refine T.blkEnd ?_
    refine T.roundEnd (_ :: lv') zq4 (Hp.le.refl _) ⟨_, lv', rfl, ?_⟩
    rw [List.take_add_one, hx]
    simpa using hv'
  · rintro r lk Hk hle ⟨v, lv, rfl, hv⟩
    obtain ⟨ad, cap, rfl⟩ := hv.val
    refine T.blkEnd ?_
    refine sq ?_
    refine sr ?_
    refine sl ?_
    refine sa ?_
    refine so ?_
    rw [List.take_length] at hv
    exact T.retF (Lv.mark Upd.head (Vec.freezeLv (l' := []) hv (by rw [List.append_nil]; exact zq4) fun H' _ hsl => Lv.fin (RV.tmp rfl rfl) hsl))
  · rintro c r lk Hk hle h; exact h.elim

theorem lower_fn (r : Int) (H : Hp) (hr : 0 ≤ r ∧ r ≤ 1114111) : Fn Tryz.prog 87 #[.int .i32 r] H (fun v _ => v = .int .i32 (lowerR r)) := by
  refine Fn.of_T (vs := [.int .i32 r]) Tryz.func87 rfl rfl fun w => ?_
  refine sq ?_
  refine sr ?_
  refine sa ?_
  refine so ?_
  refine sq ?_
  refine T.block ?_
  refine sq ?_
  refine sq ?_
  refine sr ?_
  refine sm ?_
  refine sv (PV.geq rfl rfl) ?_
  refine sm ?_
  refine T.splitD (d := 6) rfl (fun h0 => ?_) (fun h0 => ?_)
  · refine gm ?_
    refine gv (PV.leq rfl rfl) ?_
    refine sT ?_
    refine sa ?_
    refine so ?_
    refine T.condD rfl (fun h1 => ?_) (fun h1 => ?_)
    · refine T.skip ?_
      refine sc rfl (by omega) ?_
      refine sq ?_
      refine sr ?_
      refine sm ?_
      refine sv (PV.add32 rfl rfl (by omega)) ?_
      refine sa ?_
      refine so ?_
      (refine T.retF (Lv.fin (RV.tmp rfl rfl) ?_); congr 1; unfold lowerR; split <;> (try split) <;> omega)
    · refine sq ?_
      refine sr ?_
      refine sm ?_
      refine sv (PV.geq rfl rfl) ?_
      refine sm ?_
      refine T.splitD (d := 12) rfl (fun h2 => ?_) (fun h2 => ?_)
      · refine gm ?_
        refine gv (PV.leq rfl rfl) ?_
        refine sT ?_
        refine sm ?_
        refine T.splitD (d := 16) rfl (fun h3 => ?_) (fun h3 => ?_)
        · refine gm ?_
          refine gv (PV.neq rfl rfl) ?_
          refine sT ?_
          refine sa ?_
          refine so ?_
          refine T.condD rfl (fun h4 => ?_) (fun h4 => ?_)
          · refine T.skip ?_
            refine sc rfl (by omega) ?_
            refine sq ?_
            refine sr ?_
            refine sm ?_
            refine sv (PV.add32 rfl rfl (by omega)) ?_
            refine sa ?_
            refine so ?_
            (refine T.retF (Lv.fin (RV.tmp rfl rfl) ?_); congr 1; unfold lowerR; split <;> (try split) <;> omega)
          · refine sq ?_
            refine sr ?_
            refine sm ?_
            refine sv (PV.geq rfl rfl) ?_
            refine sm ?_
            refine T.setF (d := 22) rfl (by omega) ?_
            refine sp ?_
            refine sp ?_
            refine sF ?_
            refine sm ?_
            refine sp ?_
            refine sp ?_
            refine sF ?_
            refine sa ?_
            refine so ?_
            refine T.condF rfl rfl ?_
            refine sr ?_
            refine sm ?_
            refine sv (PV.geq rfl rfl) ?_
            refine sm ?_
            refine T.setF (d := 32) rfl (by omega) ?_
            refine sp ?_
            refine sp ?_
            refine sF ?_
            refine sa ?_
            refine so ?_
            refine T.condF rfl rfl ?_
            refine sq ?_
            refine sr ?_
            refine sm ?_
            refine sv (PV.geq rfl rfl) ?_
            refine sm ?_
            refine T.setF (d := 41) rfl (by omega) ?_
            refine sp ?_
            refine sp ?_
            refine sF ?_
            refine sa ?_
            refine so ?_
            refine T.condF rfl rfl ?_
            refine T.skip ?_
            refine T.blkEnd ?_
            refine sq ?_
            refine sr ?_
            refine sm ?_
            refine sa ?_
            refine so ?_
            (refine T.retF (Lv.fin (RV.tmp rfl rfl) ?_); congr 1; unfold lowerR; split <;> (try split) <;> omega)
        · refine sp ?_
          refine sp ?_
          refine sF ?_
          refine sa ?_
          refine so ?_
          refine T.condF rfl rfl ?_
          refine sq ?_
          refine sr ?_
          refine sm ?_
          refine sv (PV.geq rfl rfl) ?_
          refine sm ?_
          refine T.splitD (d := 22) rfl (fun h4 => ?_) (fun h4 => ?_)
          · refine gm ?_
            refine gv (PV.leq rfl rfl) ?_
            refine sT ?_
            refine sm ?_
            refine T.splitD (d := 26) rfl (fun h5 => ?_) (fun h5 => ?_)
            · refine gm ?_
              refine gv (PV.neq rfl rfl) ?_
              refine sT ?_
              refine sa ?_
              refine so ?_
              refine T.condD rfl (fun h6 => ?_) (fun h6 => ?_)
              · refine T.skip ?_
                refine sc rfl (by omega) ?_
                refine sq ?_
                refine sr ?_
                refine sm ?_
                refine sv (PV.add32 rfl rfl (by omega)) ?_
                refine sa ?_
                refine so ?_
                (refine T.retF (Lv.fin (RV.tmp rfl rfl) ?_); congr 1; unfold lowerR; split <;> (try split) <;> omega)
              · refine sr ?_
                refine sm ?_
                refine sv (PV.geq rfl rfl) ?_
                refine sm ?_
                refine T.setF (d := 32) rfl (by omega) ?_
                refine sp ?_
                refine sp ?_
                refine sF ?_
                refine sa ?_
                refine so ?_
                refine T.condF rfl rfl ?_
                refine sq ?_
                refine sr ?_
                refine sm ?_
                refine sv (PV.geq rfl rfl) ?_
                refine sm ?_
                refine T.setF (d := 41) rfl (by omega) ?_
                refine sp ?_
                refine sp ?_
                refine sF ?_
                refine sa ?_
                refine so ?_
                refine T.condF rfl rfl ?_
                refine T.skip ?_
                refine T.blkEnd ?_
                refine sq ?_
                refine sr ?_
                refine sm ?_
                refine sa ?_
                refine so ?_
                (refine T.retF (Lv.fin (RV.tmp rfl rfl) ?_); congr 1; unfold lowerR; split <;> (try split) <;> omega)
            · refine sp ?_
              refine sp ?_
              refine sF ?_
              refine sa ?_
              refine so ?_
              refine T.condF rfl rfl ?_
              refine sr ?_
              refine sm ?_
              refine sv (PV.geq rfl rfl) ?_
              refine sm ?_
              refine T.splitD (d := 32) rfl (fun h6 => ?_) (fun h6 => ?_)
              · refine gm ?_
                refine gv (PV.leq rfl rfl) ?_
                refine sT ?_
                refine sa ?_
                refine so ?_
                refine T.condD rfl (fun h7 => ?_) (fun h7 => ?_)
                · refine sq ?_
                  refine sr ?_
                  refine sm ?_
                  refine sv (PV.add32 rfl rfl (by omega)) ?_
                  refine sa ?_
                  refine so ?_
                  (refine T.retF (Lv.fin (RV.tmp rfl rfl) ?_); congr 1; unfold lowerR; split <;> (try split) <;> omega)
                · refine sq ?_
                  refine sr ?_
                  refine sm ?_
                  refine sv (PV.geq rfl rfl) ?_
                  refine sm ?_
                  refine T.setT (d := 41) rfl (by omega) ?_
                  refine gm ?_
                  refine gv (PV.leq rfl rfl) ?_
                  refine sT ?_
                  refine sa ?_
                  refine so ?_
                  refine sd rfl (by omega) ?_
                  refine T.skip ?_
                  refine T.blkEnd ?_
                  refine sq ?_
                  refine sr ?_
                  refine sm ?_
                  refine sa ?_
                  refine so ?_
                  (refine T.retF (Lv.fin (RV.tmp rfl rfl) ?_); congr 1; unfold lowerR; split <;> (try split) <;> omega)
              · refine sp ?_
                refine sp ?_
                refine sF ?_
                refine sa ?_
                refine so ?_
                refine T.condF rfl rfl ?_
                refine sq ?_
                refine sr ?_
                refine sm ?_
                refine sv (PV.geq rfl rfl) ?_
                refine sm ?_
                refine T.splitD (d := 41) rfl (fun h7 => ?_) (fun h7 => ?_)
                · refine gm ?_
                  refine gv (PV.leq rfl rfl) ?_
                  refine sT ?_
                  refine sa ?_
                  refine so ?_
                  refine sc rfl (by omega) ?_
                  refine sq ?_
                  refine sr ?_
                  refine sm ?_
                  refine sv (PV.add32 rfl rfl (by omega)) ?_
                  refine sa ?_
                  refine so ?_
                  (refine T.retF (Lv.fin (RV.tmp rfl rfl) ?_); congr 1; unfold lowerR; split <;> (try split) <;> omega)
                · refine sp ?_
                  refine sp ?_
                  refine sF ?_
                  refine sa ?_
                  refine so ?_
                  refine T.condF rfl rfl ?_
                  refine T.skip ?_
                  refine T.blkEnd ?_
                  refine sq ?_
                  refine sr ?_
                  refine sm ?_
                  refine sa ?_
                  refine so ?_
                  (refine T.retF (Lv.fin (RV.tmp rfl rfl) ?_); congr 1; unfold lowerR; split <;> (try split) <;> omega)
          · refine sp ?_
            refine sp ?_
            refine sF ?_
            refine sm ?_
            refine sp ?_
            refine sp ?_
            refine sF ?_
            refine sa ?_
            refine so ?_
            refine T.condF rfl rfl ?_
            refine sr ?_
            refine sm ?_
            refine sv (PV.geq rfl rfl) ?_
            refine sm ?_
            refine T.setF (d := 32) rfl (by omega) ?_
            refine sp ?_
            refine sp ?_
            refine sF ?_
            refine sa ?_
            refine so ?_
            refine T.condF rfl rfl ?_
            refine sq ?_
            refine sr ?_
            refine sm ?_
            refine sv (PV.geq rfl rfl) ?_
            refine sm ?_
            refine T.setF (d := 41) rfl (by omega) ?_
            refine sp ?_
            refine sp ?_
            refine sF ?_
            refine sa ?_
            refine so ?_
            refine T.condF rfl rfl ?_
            refine T.skip ?_
            refine T.blkEnd ?_
            refine sq ?_
            refine sr ?_
            refine sm ?_
            refine sa ?_
            refine so ?_
            (refine T.retF (Lv.fin (RV.tmp rfl rfl) ?_); congr 1; unfold lowerR; split <;> (try split) <;> omega)
      · refine sp ?_
        refine sp ?_
        refine sF ?_
        refine sm ?_
        refine sp ?_
        refine sp ?_
        refine sF ?_
        refine sa ?_
        refine so ?_
        refine T.condF rfl rfl ?_
        refine sq ?_
        refine sr ?_
        refine sm ?_
        refine sv (PV.geq rfl rfl) ?_
        refine sm ?_
        refine T.setF (d := 22) rfl (by omega) ?_
        refine sp ?_
        refine sp ?_
        refine sF ?_
        refine sm ?_
        refine sp ?_
        refine sp ?_
        refine sF ?_
        refine sa ?_
        refine so ?_
        refine T.condF rfl rfl ?_
        refine sr ?_
        refine sm ?_
        refine sv (PV.geq rfl rfl) ?_
        refine sm ?_
        refine T.setF (d := 32) rfl (by omega) ?_
        refine sp ?_
        refine sp ?_
        refine sF ?_
        refine sa ?_
        refine so ?_
        refine T.condF rfl rfl ?_
        refine sq ?_
        refine sr ?_
        refine sm ?_
        refine sv (PV.geq rfl rfl) ?_
        refine sm ?_
        refine T.setF (d := 41) rfl (by omega) ?_
        refine sp ?_
        refine sp ?_
        refine sF ?_
        refine sa ?_
        refine so ?_
        refine T.condF rfl rfl ?_
        refine T.skip ?_
        refine T.blkEnd ?_
        refine sq ?_
        refine sr ?_
        refine sm ?_
        refine sa ?_
        refine so ?_
        (refine T.retF (Lv.fin (RV.tmp rfl rfl) ?_); congr 1; unfold lowerR; split <;> (try split) <;> omega)
  · refine sp ?_
    refine sp ?_
    refine sF ?_
    refine sa ?_
    refine so ?_
    refine T.condF rfl rfl ?_
    refine sq ?_
    refine sr ?_
    refine sm ?_
    refine sv (PV.geq rfl rfl) ?_
    refine sm ?_
    refine T.setF (d := 12) rfl (by omega) ?_
    refine sp ?_
    refine sp ?_
    refine sF ?_
    refine sm ?_
    refine sp ?_
    refine sp ?_
    refine sF ?_
    refine sa ?_
    refine so ?_
    refine T.condF rfl rfl ?_
    refine sq ?_
    refine sr ?_
    refine sm ?_
    refine sv (PV.geq rfl rfl) ?_
    refine sm ?_
    refine T.setF (d := 22) rfl (by omega) ?_
    refine sp ?_
    refine sp ?_
    refine sF ?_
    refine sm ?_
    refine sp ?_
    refine sp ?_
    refine sF ?_
    refine sa ?_
    refine so ?_
    refine T.condF rfl rfl ?_
    refine sr ?_
    refine sm ?_
    refine sv (PV.geq rfl rfl) ?_
    refine sm ?_
    refine T.setF (d := 32) rfl (by omega) ?_
    refine sp ?_
    refine sp ?_
    refine sF ?_
    refine sa ?_
    refine so ?_
    refine T.condF rfl rfl ?_
    refine sq ?_
    refine sr ?_
    refine sm ?_
    refine sv (PV.geq rfl rfl) ?_
    refine sm ?_
    refine T.setF (d := 41) rfl (by omega) ?_
    refine sp ?_
    refine sp ?_
    refine sF ?_
    refine sa ?_
    refine so ?_
    refine T.condF rfl rfl ?_
    refine T.skip ?_
    refine T.blkEnd ?_
    refine sq ?_
    refine sr ?_
    refine sm ?_
    refine sa ?_
    refine so ?_
    (refine T.retF (Lv.fin (RV.tmp rfl rfl) ?_); congr 1; unfold lowerR; split <;> (try split) <;> omega)
theorem one_bytesV (l : List UInt8) : ∀ v ∈ bytesV l, v.oneCell' = true := by
  intro v hv
  obtain ⟨b, _, rfl⟩ := List.mem_map.1 hv
  rfl
theorem bytesV_append (a b : List UInt8) : bytesV (a ++ b) = bytesV a ++ bytesV b := by simp [bytesV]
theorem Src.bytes {P : Program} {l : List (Nat × Obj)} {H : Hp} {bs : List UInt8} : Src P l H 1 (.string ⟨bs.toArray⟩) bs.length (bytesV bs) := by
  have := Src.str (P := P) (l := l) (H := H) (s := ⟨bs.toArray⟩)
  simpa [ByteArray.size] using this
theorem fold_len (s : ByteArray) (n : Nat) (hs : s.size ≤ 20000) : (((units s).take n).flatMap (foldU s)).length ≤ 4 * 20000 := by
  have hul := units_len s
  have := flat_le (f := foldU s) (m := 4) ((units s).take n) (fun y hy => foldU_le (List.mem_of_mem_take hy))
  have h2 : ((units s).take n).length ≤ 20000 := by rw [List.length_take]; omega
  omega

set_option maxHeartbeats 1000000 in
theorem fold_fn (s : ByteArray) (H : Hp) (hs : s.size ≤ 20000) : Fn Tryz.prog 47 #[.string s] H (fun v _ => v = .string ⟨(foldL s).toArray⟩) := by
  refine Fn.of_T (vs := [.string s]) Tryz.func47 rfl rfl fun w => ?_
  refine sq ?_
  refine sr ?_
  (refine T.box Wanted.none rfl rfl zq15 ?_; intro b1)
  refine sa ?_
  refine so ?_
  refine sq ?_
  refine sr ?_
  refine sl ?_
  refine sv (PV.lenStr rfl) ?_
  refine T.makeSlice0 Wanted.none rfl rfl rfl (by omega) ?_
  intro v0 lv0 hv0 hnn
  refine T.perm List.perm_append_comm ?_
  obtain ⟨ad0, cap0, rfl⟩ := hv0.val
  refine sy fun b3 => ?_
  refine T.store1 Wanted.none rfl rfl rfl zq14 zq13 ?_
  refine so ?_
  refine sq ?_
  refine sq ?_
  refine sr ?_
  refine sl ?_
  refine T.call Wanted.none rfl rfl (units_fn s H) ?_
  rintro _ H1 hH1 ⟨bs, rfl, hb⟩
  refine so ?_
  refine T.block ?_
  have hul := units_len s
  refine T.rangeFunc rfl rfl (units_iter s bs H1 _ (by omega) hb) (fun _ => rfl) rfl (by decide)
    (fun n lk _ => ∃ v lv, lk = (b3, .cells #[v] 91 (0, 0)) :: (b1, .cells #[.string s] 9 (0, 0)) :: lv ∧ Vec 5 1 v lv (((units s).take n).flatMap (foldU s)).length (bytesV (((units s).take n).flatMap (foldU s))))
    (fun c lk _ => False)
    ⟨_, lv0, rfl, hv0⟩ ?_ ?_ ?_
  · rintro n x lk Hk hx ⟨v, lv, rfl, hv⟩ hle L rec lo hrec
    have hn := (List.getElem?_eq_some_iff.1 hx).1
    have hm := List.mem_of_getElem? hx
    obtain ⟨m1, m2, m3, m4, m5⟩ := units_mem hm
    have hlen := fold_len s n hs
    have hel := encode_le (lowerR x.r)
    have hpl := piece_le s x
    obtain ⟨ad, cap, rfl⟩ := hv.val
    have hnx : ((units s).take (n + 1)).flatMap (foldU s) = ((units s).take n).flatMap (foldU s) ++ foldU s x := by
      rw [List.take_add_one, hx]; simp
    refine sr ?_
    refine sy fun b4 => ?_
    refine T.storeA Wanted.none rfl rfl zq8 (by exact rfl) zq14 zq13 ?_
    refine so ?_
    refine T.begin (lk := _ :: _ :: _ :: lv) hrec ?_
    refine T.block ?_
    refine sq ?_
    refine sr ?_
    refine sf ?_
    refine sl ?_
    refine T.callV Wanted.none rfl rfl (lower_fn x.r Hk (by omega)) ?_
    refine sa ?_
    refine so ?_
    refine sq ?_
    refine sr ?_
    refine sm ?_
    refine sf ?_
    refine sl ?_
    refine sv (PV.neq rfl rfl) ?_
    refine so ?_
    refine T.condD rfl (fun hc => ?_) (fun hc => ?_)
    · have hfu : foldU s x = (Utf8.encode (lowerR x.r)).data.toList := if_pos hc
      refine sr ?_
      refine sl ?_
      refine sm ?_
      refine sv (PV.convRune rfl) ?_
      refine T.append [_, _, _] Wanted.none rfl rfl rfl hv Src.str (one_bytesV _) (by omega) ?_
      intro v' lv' hv' hnil
      obtain ⟨ad', cap', rfl⟩ := hv'.val
      refine T.store1 Wanted.none rfl rfl rfl zq14 zq13 ?_
      refine so ?_
      refine T.blkEnd ?_
      refine T.roundEnd (_ :: _ :: lv') zq4 (Hp.le.refl _) ⟨_, lv', rfl, ?_⟩
      rw [hnx, hfu, bytesV_append, List.length_append]
      simpa using hv'
    · have hfu : foldU s x = piece s x := if_neg hc
      refine T.regionT 10 (by kernel_rfl) ?_
      refine TQ.pv (PV.load1 rfl zq0 rfl) Wanted.none rfl rfl ?_
      refine TQ.pv (PV.load1 rfl zq0 rfl) Wanted.none rfl rfl ?_
      refine TQ.pv (PV.fieldAddr rfl) Wanted.none rfl rfl ?_
      refine TQ.pv (PV.load1 rfl zq0 rfl) Wanted.none rfl rfl ?_
      refine TQ.pv (PV.fieldAddr rfl) Wanted.none rfl rfl ?_
      refine TQ.pv (PV.load1 rfl zq0 rfl) Wanted.none rfl rfl ?_
      refine TQ.pv (PV.fieldAddr rfl) Wanted.none rfl rfl ?_
      refine TQ.pv (PV.load1 rfl zq0 rfl) Wanted.none rfl rfl ?_
      refine TQ.pv (PV.add rfl rfl (by omega)) Wanted.none rfl rfl ?_
      refine TQ.pv (PV.sliceStr rfl rfl rfl (by omega)) Wanted.none rfl rfl ?_
      refine TQ.nil ?_
      rw [extract_piece]
      refine T.append [_, _, _] Wanted.none rfl rfl rfl hv Src.bytes (one_bytesV _) (by omega) ?_
      intro v' lv' hv' hnil
      obtain ⟨ad', cap', rfl⟩ := hv'.val
      refine T.store1 Wanted.none rfl rfl rfl zq14 zq13 ?_
      refine so ?_
      refine T.blkEnd ?_
      refine T.roundEnd (_ :: _ :: lv') zq4 (Hp.le.refl _) ⟨_, lv', rfl, ?_⟩
      rw [hnx, hfu, bytesV_append, List.length_append]
      exact hv'
  · rintro r lk Hk hle ⟨v, lv, rfl, hv⟩
    rw [List.take_length] at hv
    obtain ⟨ad, cap, rfl⟩ := hv.val
    refine T.blkEnd ?_
    refine sq ?_
    refine sr ?_
    refine sl ?_
    refine sv (PV.bytesStr rfl (Vec.srcE [_, _, _] hv) ⟨_, _, rfl⟩) ?_
    refine sa ?_
    refine so ?_
    exact T.retF (Lv.mark Upd.head (Lv.fin (RV.tmp rfl rfl) rfl))
  · rintro c r lk Hk hle h; exact h.elim

theorem cellsU_len (u : U) : (cellsU u).length = 3 := rfl
/-- the last k units' bytes, from behind -/
theorem rev_drop {s : ByteArray} {i : Nat} {x : U} (hx : (units s)[i]? = some x) : ((units s).drop i).reverse.flatMap (piece s) = ((units s).drop (i + 1)).reverse.flatMap (piece s) ++ piece s x := by
  have hi := (List.getElem?_eq_some_iff.1 hx).1
  rw [List.drop_eq_getElem_cons hi, (List.getElem?_eq_some_iff.1 hx).2]
  simp
theorem rev_len (s : ByteArray) (n : Nat) (hs : s.size ≤ 20000) : (((units s).drop n).reverse.flatMap (piece s)).length ≤ 4 * 20000 := by
  have hul := units_len s
  have := flat_le (f := piece s) (m := 4) ((units s).drop n).reverse (fun y hy => by
    have hy := List.mem_of_mem_drop (List.mem_reverse.1 hy)
    have := piece_le s y; have := (units_mem hy).2.2.1; omega)
  have h2 : ((units s).drop n).reverse.length ≤ 20000 := by rw [List.length_reverse, List.length_drop]; omega
  omega
structure RvG where
  i : Nat
  v : Value
  lv : List (Nat × Obj)
set_option maxHeartbeats 1000000 in
theorem reverse_fn (s : ByteArray) (H : Hp) (hs : s.size ≤ 20000) : Fn Tryz.prog 48 #[.string s] H (fun v _ => v = .string ⟨(revL s).toArray⟩) := by
  refine Fn.of_T (vs := [.string s]) Tryz.func48 rfl rfl fun w => ?_
  refine sq ?_
  refine sr ?_
  refine sa ?_
  refine so ?_
  refine sq ?_
  refine sr ?_
  refine sm ?_
  refine T.call Wanted.none rfl rfl (list_fn s H hs) ?_
  intro vl H1 hH1 hsl
  have hul := units_len s
  obtain ⟨adl, capl, rfl⟩ := hsl.len
  refine sa ?_
  refine so ?_
  refine sq ?_
  refine sr ?_
  refine sm ?_
  refine sv (PV.lenStr rfl) ?_
  refine T.makeSlice0 Wanted.none rfl rfl rfl (by omega) ?_
  intro v0 lv0 hv0 hnn
  refine sa ?_
  refine so ?_
  refine sq ?_
  refine sq ?_
  refine sr ?_
  refine sm ?_
  refine sv (PV.lenSl rfl) ?_
  refine sv (PV.sub rfl rfl (by omega)) ?_
  refine sa ?_
  refine so ?_
  refine T.block ?_
  refine T.loop (γ := RvG) (fun g => g.i ≤ (units s).length ∧ Vec 5 1 g.v g.lv (((units s).drop g.i).reverse.flatMap (piece s)).length (bytesV (((units s).drop g.i).reverse.flatMap (piece s))))
    (fun g => [(0, .string s), (3, .slice adl (units s).length capl), (4, g.v), (5, .int .i64 ((g.i : Int) - 1)), (2, .string ⟨#[]⟩)])
    (fun g => g.lv) (fun _ => H1) (fun g => g.i) ⟨(units s).length, v0, lv0⟩ ⟨by simp, by simpa [bytesV] using hv0⟩ zq8 zq4 rfl ?_
  rintro ⟨i, v, lv⟩ ⟨hi, hv⟩
  dsimp only at hi hv ⊢
  obtain ⟨ad, cap, rfl⟩ := hv.val
  refine sq ?_
  refine sq ?_
  refine sr ?_
  refine sm ?_
  refine sv (PV.geq rfl rfl) ?_
  refine so ?_
  refine T.condD rfl (fun hc => ?_) (fun hc => ?_)
  · obtain ⟨i, rfl⟩ : ∃ m, i = m + 1 := ⟨i - 1, by omega⟩
    have hx := List.getElem?_eq_getElem (l := units s) (i := i) (by omega)
    obtain ⟨x, hxe⟩ : ∃ x, (units s)[i] = x := ⟨_, rfl⟩
    rw [hxe] at hx
    obtain ⟨m1, m2, m3, m4, m5⟩ := units_mem (List.mem_of_getElem? hx)
    have hrl := rev_len s (i + 1) hs
    have hpl := piece_le s x
    obtain ⟨b, off, cap', hve, hsub⟩ := hsl.elem (i := i) (by omega) (flat_elem cellsU_len (units s) i x hx)
    injection hve with e1 e2 e3
    subst e1 e3
    have hcast : ((i + 1 : Nat) : Int) - 1 = (i : Int) := by omega
    rw [hcast]
    refine T.skip ?_
    refine sq ?_
    refine T.block ?_
    refine T.regionT 19 (by kernel_rfl) ?_
    refine TQ.pv (PV.move rfl) Wanted.none rfl rfl ?_
    refine TQ.pv (PV.move rfl) Wanted.none rfl rfl ?_
    refine TQ.pv (PV.move rfl) Wanted.none rfl rfl ?_
    refine TQ.pv (PV.move rfl) Wanted.none rfl rfl ?_
    refine TQ.pv (PV.indexAddr rfl rfl (by omega)) Wanted.none rfl rfl ?_
    refine TQ.pv (PV.fieldAddr rfl) Wanted.none rfl rfl ?_
    refine TQ.pv (PV.loadSub rfl (by assumption) rfl) Wanted.none rfl rfl ?_
    refine TQ.pv (PV.move rfl) Wanted.none rfl rfl ?_
    refine TQ.pv (PV.move rfl) Wanted.none rfl rfl ?_
    refine TQ.pv (PV.indexAddr rfl rfl (by omega)) Wanted.none rfl rfl ?_
    refine TQ.pv (PV.fieldAddr rfl) Wanted.none rfl rfl ?_
    refine TQ.pv (PV.loadSub rfl (by assumption) rfl) Wanted.none rfl rfl ?_
    refine TQ.pv (PV.move rfl) Wanted.none rfl rfl ?_
    refine TQ.pv (PV.move rfl) Wanted.none rfl rfl ?_
    refine TQ.pv (PV.indexAddr rfl rfl (by omega)) Wanted.none rfl rfl ?_
    refine TQ.pv (PV.fieldAddr rfl) Wanted.none rfl rfl ?_
    refine TQ.pv (PV.loadSub rfl (by assumption) rfl) Wanted.none rfl rfl ?_
    refine TQ.pv (PV.add rfl rfl (by omega)) Wanted.none rfl rfl ?_
    refine TQ.pv (PV.sliceStr rfl rfl rfl (by omega)) Wanted.none rfl rfl ?_
    refine TQ.nil ?_
    rw [extract_piece]
    refine T.appendE [] Wanted.none rfl rfl rfl hv Src.bytes (one_bytesV _) (by omega) ?_
    intro v' lv' hv' hnil
    obtain ⟨ad', cap', rfl⟩ := hv'.val
    refine sa ?_
    refine so ?_
    refine T.blkEnd ?_
    refine sr ?_
    refine sm ?_
    refine sv (PV.sub rfl rfl (by omega)) ?_
    refine sa ?_
    refine so ?_
    refine T.next ⟨i, _, lv'⟩ ⟨by dsimp only; omega, ?_⟩ (by dsimp only; omega) zq8 zq4 rfl
    dsimp only
    rw [rev_drop hx, List.length_append, bytesV_append]
    exact hv'
  · obtain rfl : i = 0 := by omega
    rw [List.drop_zero] at hv
    refine T.exit rfl ?_
    refine sq ?_
    refine sr ?_
    refine sm ?_
    refine sv (PV.bytesStr rfl (Vec.srcE [] hv) ⟨_, _, rfl⟩) ?_
    refine sa ?_
    refine so ?_
    exact T.retF (Lv.fin (RV.tmp rfl rfl) rfl)

end Go.Proofs.YtlklcjpmfjmenaaGreatDoor
namespace Go.Proofs.YtlklcjpmfjmenaaGreatDoor
open Go.RowKit

theorem foldRune_fn (r : Int) (H : Hp) (hr : 0 ≤ r ∧ r ≤ 1114111) : Fn Tryz.prog 90 #[.int .i32 r] H (fun v _ => v = .int .i32 (lowerR r)) := by
  refine Fn.of_T (vs := [.int .i32 r]) Tryz.func90 rfl rfl fun w => ?_
  refine sq ?_
  refine sr ?_
  refine sa ?_
  refine so ?_
  refine sq ?_
  refine T.block ?_
  refine sq ?_
  refine sq ?_
  refine sr ?_
  refine sm ?_
  refine sv (PV.geq rfl rfl) ?_
  refine sm ?_
  refine T.splitD (d := 6) rfl (fun h0 => ?_) (fun h0 => ?_)
  · refine gm ?_
    refine gv (PV.leq rfl rfl) ?_
    refine sT ?_
    refine sa ?_
    refine so ?_
    refine T.condD rfl (fun h1 => ?_) (fun h1 => ?_)
    · refine T.skip ?_
      refine sc rfl (by omega) ?_
      refine sq ?_
      refine sr ?_
      refine sm ?_
      refine sv (PV.add32 rfl rfl (by omega)) ?_
      refine sa ?_
      refine so ?_
      (refine T.retF (Lv.fin (RV.tmp rfl rfl) ?_); congr 1; unfold lowerR; split <;> (try split) <;> omega)
    · refine sq ?_
      refine sr ?_
      refine sm ?_
      refine sv (PV.geq rfl rfl) ?_
      refine sm ?_
      refine T.splitD (d := 12) rfl (fun h2 => ?_) (fun h2 => ?_)
      · refine gm ?_
        refine gv (PV.leq rfl rfl) ?_
        refine sT ?_
        refine sm ?_
        refine T.splitD (d := 16) rfl (fun h3 => ?_) (fun h3 => ?_)
        · refine gm ?_
          refine gv (PV.neq rfl rfl) ?_
          refine sT ?_
          refine sa ?_
          refine so ?_
          refine T.condD rfl (fun h4 => ?_) (fun h4 => ?_)
          · refine T.skip ?_
            refine sc rfl (by omega) ?_
            refine sq ?_
            refine sr ?_
            refine sm ?_
            refine sv (PV.add32 rfl rfl (by omega)) ?_
            refine sa ?_
            refine so ?_
            (refine T.retF (Lv.fin (RV.tmp rfl rfl) ?_); congr 1; unfold lowerR; split <;> (try split) <;> omega)
          · refine sq ?_
            refine sr ?_
            refine sm ?_
            refine sv (PV.geq rfl rfl) ?_
            refine sm ?_
            refine T.setF (d := 22) rfl (by omega) ?_
            refine sp ?_
            refine sp ?_
            refine sF ?_
            refine sm ?_
            refine sp ?_
            refine sp ?_
            refine sF ?_
            refine sa ?_
            refine so ?_
            refine T.condF rfl rfl ?_
            refine sr ?_
            refine sm ?_
            refine sv (PV.geq rfl rfl) ?_
            refine sm ?_
            refine T.setF (d := 32) rfl (by omega) ?_
            refine sp ?_
            refine sp ?_
            refine sF ?_
            refine sa ?_
            refine so ?_
            refine T.condF rfl rfl ?_
            refine sq ?_
            refine sr ?_
            refine sm ?_
            refine sv (PV.geq rfl rfl) ?_
            refine sm ?_
            refine T.setF (d := 41) rfl (by omega) ?_
            refine sp ?_
            refine sp ?_
            refine sF ?_
            refine sa ?_
            refine so ?_
            refine T.condF rfl rfl ?_
            refine T.skip ?_
            refine T.blkEnd ?_
            refine sq ?_
            refine sr ?_
            refine sm ?_
            refine sa ?_
            refine so ?_
            (refine T.retF (Lv.fin (RV.tmp rfl rfl) ?_); congr 1; unfold lowerR; split <;> (try split) <;> omega)
        · refine sp ?_
          refine sp ?_
          refine sF ?_
          refine sa ?_
          refine so ?_
          refine T.condF rfl rfl ?_
          refine sq ?_
          refine sr ?_
          refine sm ?_
          refine sv (PV.geq rfl rfl) ?_
          refine sm ?_
          refine T.splitD (d := 22) rfl (fun h4 => ?_) (fun h4 => ?_)
          · refine gm ?_
            refine gv (PV.leq rfl rfl) ?_
            refine sT ?_
            refine sm ?_
            refine T.splitD (d := 26) rfl (fun h5 => ?_) (fun h5 => ?_)
            · refine gm ?_
              refine gv (PV.neq rfl rfl) ?_
              refine sT ?_
              refine sa ?_
              refine so ?_
              refine T.condD rfl (fun h6 => ?_) (fun h6 => ?_)
              · refine T.skip ?_
                refine sc rfl (by omega) ?_
                refine sq ?_
                refine sr ?_
                refine sm ?_
                refine sv (PV.add32 rfl rfl (by omega)) ?_
                refine sa ?_
                refine so ?_
                (refine T.retF (Lv.fin (RV.tmp rfl rfl) ?_); congr 1; unfold lowerR; split <;> (try split) <;> omega)
              · refine sr ?_
                refine sm ?_
                refine sv (PV.geq rfl rfl) ?_
                refine sm ?_
                refine T.setF (d := 32) rfl (by omega) ?_
                refine sp ?_
                refine sp ?_
                refine sF ?_
                refine sa ?_
                refine so ?_
                refine T.condF rfl rfl ?_
                refine sq ?_
                refine sr ?_
                refine sm ?_
                refine sv (PV.geq rfl rfl) ?_
                refine sm ?_
                refine T.setF (d := 41) rfl (by omega) ?_
                refine sp ?_
                refine sp ?_
                refine sF ?_
                refine sa ?_
                refine so ?_
                refine T.condF rfl rfl ?_
                refine T.skip ?_
                refine T.blkEnd ?_
                refine sq ?_
                refine sr ?_
                refine sm ?_
                refine sa ?_
                refine so ?_
                (refine T.retF (Lv.fin (RV.tmp rfl rfl) ?_); congr 1; unfold lowerR; split <;> (try split) <;> omega)
            · refine sp ?_
              refine sp ?_
              refine sF ?_
              refine sa ?_
              refine so ?_
              refine T.condF rfl rfl ?_
              refine sr ?_
              refine sm ?_
              refine sv (PV.geq rfl rfl) ?_
              refine sm ?_
              refine T.splitD (d := 32) rfl (fun h6 => ?_) (fun h6 => ?_)
              · refine gm ?_
                refine gv (PV.leq rfl rfl) ?_
                refine sT ?_
                refine sa ?_
                refine so ?_
                refine T.condD rfl (fun h7 => ?_) (fun h7 => ?_)
                · refine sq ?_
                  refine sr ?_
                  refine sm ?_
                  refine sv (PV.add32 rfl rfl (by omega)) ?_
                  refine sa ?_
                  refine so ?_
                  (refine T.retF (Lv.fin (RV.tmp rfl rfl) ?_); congr 1; unfold lowerR; split <;> (try split) <;> omega)
                · refine sq ?_
                  refine sr ?_
                  refine sm ?_
                  refine sv (PV.geq rfl rfl) ?_
                  refine sm ?_
                  refine T.setT (d := 41) rfl (by omega) ?_
                  refine gm ?_
                  refine gv (PV.leq rfl rfl) ?_
                  refine sT ?_
                  refine sa ?_
                  refine so ?_
                  refine sd rfl (by omega) ?_
                  refine T.skip ?_
                  refine T.blkEnd ?_
                  refine sq ?_
                  refine sr ?_
                  refine sm ?_
                  refine sa ?_
                  refine so ?_
                  (refine T.retF (Lv.fin (RV.tmp rfl rfl) ?_); congr 1; unfold lowerR; split <;> (try split) <;> omega)
              · refine sp ?_
                refine sp ?_
                refine sF ?_
                refine sa ?_
                refine so ?_
                refine T.condF rfl rfl ?_
                refine sq ?_
                refine sr ?_
                refine sm ?_
                refine sv (PV.geq rfl rfl) ?_
                refine sm ?_
                refine T.splitD (d := 41) rfl (fun h7 => ?_) (fun h7 => ?_)
                · refine gm ?_
                  refine gv (PV.leq rfl rfl) ?_
                  refine sT ?_
                  refine sa ?_
                  refine so ?_
                  refine sc rfl (by omega) ?_
                  refine sq ?_
                  refine sr ?_
                  refine sm ?_
                  refine sv (PV.add32 rfl rfl (by omega)) ?_
                  refine sa ?_
                  refine so ?_
                  (refine T.retF (Lv.fin (RV.tmp rfl rfl) ?_); congr 1; unfold lowerR; split <;> (try split) <;> omega)
                · refine sp ?_
                  refine sp ?_
                  refine sF ?_
                  refine sa ?_
                  refine so ?_
                  refine T.condF rfl rfl ?_
                  refine T.skip ?_
                  refine T.blkEnd ?_
                  refine sq ?_
                  refine sr ?_
                  refine sm ?_
                  refine sa ?_
                  refine so ?_
                  (refine T.retF (Lv.fin (RV.tmp rfl rfl) ?_); congr 1; unfold lowerR; split <;> (try split) <;> omega)
          · refine sp ?_
            refine sp ?_
            refine sF ?_
            refine sm ?_
            refine sp ?_
            refine sp ?_
            refine sF ?_
            refine sa ?_
            refine so ?_
            refine T.condF rfl rfl ?_
            refine sr ?_
            refine sm ?_
            refine sv (PV.geq rfl rfl) ?_
            refine sm ?_
            refine T.setF (d := 32) rfl (by omega) ?_
            refine sp ?_
            refine sp ?_
            refine sF ?_
            refine sa ?_
            refine so ?_
            refine T.condF rfl rfl ?_
            refine sq ?_
            refine sr ?_
            refine sm ?_
            refine sv (PV.geq rfl rfl) ?_
            refine sm ?_
            refine T.setF (d := 41) rfl (by omega) ?_
            refine sp ?_
            refine sp ?_
            refine sF ?_
            refine sa ?_
            refine so ?_
            refine T.condF rfl rfl ?_
            refine T.skip ?_
            refine T.blkEnd ?_
            refine sq ?_
            refine sr ?_
            refine sm ?_
            refine sa ?_
            refine so ?_
            (refine T.retF (Lv.fin (RV.tmp rfl rfl) ?_); congr 1; unfold lowerR; split <;> (try split) <;> omega)
      · refine sp ?_
        refine sp ?_
        refine sF ?_
        refine sm ?_
        refine sp ?_
        refine sp ?_
        refine sF ?_
        refine sa ?_
        refine so ?_
        refine T.condF rfl rfl ?_
        refine sq ?_
        refine sr ?_
        refine sm ?_
        refine sv (PV.geq rfl rfl) ?_
        refine sm ?_
        refine T.setF (d := 22) rfl (by omega) ?_
        refine sp ?_
        refine sp ?_
        refine sF ?_
        refine sm ?_
        refine sp ?_
        refine sp ?_
        refine sF ?_
        refine sa ?_
        refine so ?_
        refine T.condF rfl rfl ?_
        refine sr ?_
        refine sm ?_
        refine sv (PV.geq rfl rfl) ?_
        refine sm ?_
        refine T.setF (d := 32) rfl (by omega) ?_
        refine sp ?_
        refine sp ?_
        refine sF ?_
        refine sa ?_
        refine so ?_
        refine T.condF rfl rfl ?_
        refine sq ?_
        refine sr ?_
        refine sm ?_
        refine sv (PV.geq rfl rfl) ?_
        refine sm ?_
        refine T.setF (d := 41) rfl (by omega) ?_
        refine sp ?_
        refine sp ?_
        refine sF ?_
        refine sa ?_
        refine so ?_
        refine T.condF rfl rfl ?_
        refine T.skip ?_
        refine T.blkEnd ?_
        refine sq ?_
        refine sr ?_
        refine sm ?_
        refine sa ?_
        refine so ?_
        (refine T.retF (Lv.fin (RV.tmp rfl rfl) ?_); congr 1; unfold lowerR; split <;> (try split) <;> omega)
  · refine sp ?_
    refine sp ?_
    refine sF ?_
    refine sa ?_
    refine so ?_
    refine T.condF rfl rfl ?_
    refine sq ?_
    refine sr ?_
    refine sm ?_
    refine sv (PV.geq rfl rfl) ?_
    refine sm ?_
    refine T.setF (d := 12) rfl (by omega) ?_
    refine sp ?_
    refine sp ?_
    refine sF ?_
    refine sm ?_
    refine sp ?_
    refine sp ?_
    refine sF ?_
    refine sa ?_
    refine so ?_
    refine T.condF rfl rfl ?_
    refine sq ?_
    refine sr ?_
    refine sm ?_
    refine sv (PV.geq rfl rfl) ?_
    refine sm ?_
    refine T.setF (d := 22) rfl (by omega) ?_
    refine sp ?_
    refine sp ?_
    refine sF ?_
    refine sm ?_
    refine sp ?_
    refine sp ?_
    refine sF ?_
    refine sa ?_
    refine so ?_
    refine T.condF rfl rfl ?_
    refine sr ?_
    refine sm ?_
    refine sv (PV.geq rfl rfl) ?_
    refine sm ?_
    refine T.setF (d := 32) rfl (by omega) ?_
    refine sp ?_
    refine sp ?_
    refine sF ?_
    refine sa ?_
    refine so ?_
    refine T.condF rfl rfl ?_
    refine sq ?_
    refine sr ?_
    refine sm ?_
    refine sv (PV.geq rfl rfl) ?_
    refine sm ?_
    refine T.setF (d := 41) rfl (by omega) ?_
    refine sp ?_
    refine sp ?_
    refine sF ?_
    refine sa ?_
    refine so ?_
    refine T.condF rfl rfl ?_
    refine T.skip ?_
    refine T.blkEnd ?_
    refine sq ?_
    refine sr ?_
    refine sm ?_
    refine sa ?_
    refine so ?_
    (refine T.retF (Lv.fin (RV.tmp rfl rfl) ?_); congr 1; unfold lowerR; split <;> (try split) <;> omega)
set_option maxHeartbeats 1000000 in
theorem refFold_fn (s : ByteArray) (H : Hp) (hs : s.size ≤ 20000) : Fn Tryz.prog 49 #[.string s] H (fun v _ => v = .string ⟨(foldL s).toArray⟩) := by
  refine Fn.of_T (vs := [.string s]) Tryz.func49 rfl rfl fun w => ?_
  refine sq ?_
  refine sr ?_
  refine sa ?_
  refine so ?_
  refine sq ?_
  refine sr ?_
  refine sa ?_
  refine so ?_
  refine sq ?_
  refine sq ?_
  refine sr ?_
  refine sm ?_
  refine T.call Wanted.none rfl rfl (refUnits_fn s H hs) ?_
  intro vl H1 hH1 hsl
  obtain ⟨adl, capl, rfl⟩ := hsl.len
  have hul := units_len s
  refine sv (PV.lenSl rfl) ?_
  refine sm ?_
  refine so ?_
  refine T.block ?_
  refine T.loop (γ := Nat) (fun i => i ≤ (units s).length)
    (fun i => [(0, .string s), (9, .int .i64 (i : Int)), (8, .int .i64 ((units s).length : Int)), (7, .slice adl (units s).length capl), (3, .string ⟨(((units s).take i).flatMap (foldU s)).toArray⟩)])
    (fun _ => []) (fun _ => H1) (fun i => (units s).length - i) 0 (by simp) zq8 zq4 rfl ?_
  intro i h1
  by_cases hi : i < (units s).length
  · obtain ⟨x, hx⟩ : ∃ x, (units s)[i]? = some x := ⟨_, List.getElem?_eq_getElem hi⟩
    obtain ⟨m1, m2, m3, m4, m5⟩ := units_mem (List.mem_of_getElem? hx)
    obtain ⟨b, off, cap', hve, hsub⟩ := hsl.elem (i := i) (by omega) (flat_elem encF_len (units s) i x hx)
    injection hve with e1 e2 e3
    subst e1 e3
    have hbound := fold_len s i hs
    have hel := encode_le (lowerR x.r)
    have hpl := piece_le s x
    have hz1 : ByteArray.size ⟨(((units s).take i).flatMap (foldU s)).toArray⟩ ≤ 4 * 20000 := by simpa [ByteArray.size] using hbound
    have hz2 : ByteArray.size ⟨(piece s x).toArray⟩ ≤ 4 := by
      have : ByteArray.size ⟨(piece s x).toArray⟩ = (piece s x).length := by simp [ByteArray.size]
      omega
    have hfa : ((units s).take (i + 1)).flatMap (foldU s) = ((units s).take i).flatMap (foldU s) ++ foldU s x := by rw [List.take_add_one, hx]; simp
    have happ : ∀ l : List UInt8, l = foldU s x → (⟨(((units s).take i).flatMap (foldU s)).toArray⟩ : ByteArray) ++ ⟨l.toArray⟩ = ⟨(((units s).take (i + 1)).flatMap (foldU s)).toArray⟩ := by
      rintro l rfl
      rw [hfa]
      exact congrArg ByteArray.mk (by simp)
    by_cases hok : okU x = true
    · by_cases hlo : lowerR x.r = x.r
      · have hlo' : decide (lowerR x.r ≠ x.r) = false := by simp [hlo]
        refine sq ?_
        refine sr ?_
        refine sv (PV.lss rfl rfl) ?_
        refine so ?_
        refine sq ?_
        refine sc rfl (by omega) ?_
        refine T.skip ?_
        refine sq ?_
        refine T.block ?_
        refine sq ?_
        refine sr ?_
        refine sv (PV.indexAddr rfl rfl (by omega)) ?_
        refine sv (PV.loadSubAll rfl (by assumption) (by exact rfl)) ?_
        refine sy fun b5 => ?_
        refine T.storeA Wanted.none rfl rfl zq8 (by exact rfl) zq14 zq13 ?_
        refine so ?_
        refine sq ?_
        refine T.regionQ (by kernel_rfl) ?_
        refine TQ.pv (PV.fieldAddr rfl) Wanted.none rfl rfl ?_
        refine TQ.pv (PV.load1 rfl zq0 rfl) Wanted.none rfl rfl ?_
        refine TQ.pv (PV.move rfl) Wanted.none rfl rfl ?_
        refine TQ.pv (PV.fieldAddr rfl) (Wanted.guard rfl rfl (by assumption)) rfl rfl ?_
        refine TQ.pv (PV.load1 rfl zq0 rfl) (Wanted.guard rfl rfl (by assumption)) rfl rfl ?_
        refine TQ.callV (Wanted.guard rfl rfl (by assumption)) rfl rfl (foldRune_fn x.r H1 (by omega)) ?_
        refine TQ.pv (PV.fieldAddr rfl) (Wanted.guard rfl rfl (by assumption)) rfl rfl ?_
        refine TQ.pv (PV.load1 rfl zq0 rfl) (Wanted.guard rfl rfl (by assumption)) rfl rfl ?_
        refine TQ.pv (PV.neq rfl rfl) (Wanted.guard rfl rfl (by assumption)) rfl rfl ?_
        refine TQ.pv (PV.pickT rfl (by assumption) rfl) Wanted.none rfl rfl ?_
        refine TQ.nil ?_
        refine T.condF rfl (by assumption) ?_
        refine sr ?_
        refine sm ?_
        refine sm ?_
        refine sf ?_
        refine sl ?_
        refine sf ?_
        refine sl ?_
        refine sf ?_
        refine sl ?_
        refine sv (PV.add rfl rfl (by omega)) ?_
        refine sv (PV.sliceStr rfl rfl rfl (by omega)) ?_
        rw [extract_piece]
        refine sv (PV.sadd rfl rfl ?_) ?_
        · omega
        rw [happ _ (by unfold foldU; rw [if_neg (by simpa using hlo)])]
        refine sa ?_
        refine so ?_
        refine T.blkEnd ?_
        refine sr ?_
        refine sv (PV.add rfl rfl (by omega)) ?_
        refine sm ?_
        refine so ?_
        exact T.next (i + 1) (by omega) (by omega) zq8 zq4 rfl
      · have hlo' : decide (lowerR x.r ≠ x.r) = true := by simp [hlo]
        refine sq ?_
        refine sr ?_
        refine sv (PV.lss rfl rfl) ?_
        refine so ?_
        refine sq ?_
        refine sc rfl (by omega) ?_
        refine T.skip ?_
        refine sq ?_
        refine T.block ?_
        refine sq ?_
        refine sr ?_
        refine sv (PV.indexAddr rfl rfl (by omega)) ?_
        refine sv (PV.loadSubAll rfl (by assumption) (by exact rfl)) ?_
        refine sy fun b5 => ?_
        refine T.storeA Wanted.none rfl rfl zq8 (by exact rfl) zq14 zq13 ?_
        refine so ?_
        refine sq ?_
        refine T.regionQ (by kernel_rfl) ?_
        refine TQ.pv (PV.fieldAddr rfl) Wanted.none rfl rfl ?_
        refine TQ.pv (PV.load1 rfl zq0 rfl) Wanted.none rfl rfl ?_
        refine TQ.pv (PV.move rfl) Wanted.none rfl rfl ?_
        refine TQ.pv (PV.fieldAddr rfl) (Wanted.guard rfl rfl (by assumption)) rfl rfl ?_
        refine TQ.pv (PV.load1 rfl zq0 rfl) (Wanted.guard rfl rfl (by assumption)) rfl rfl ?_
        refine TQ.callV (Wanted.guard rfl rfl (by assumption)) rfl rfl (foldRune_fn x.r H1 (by omega)) ?_
        refine TQ.pv (PV.fieldAddr rfl) (Wanted.guard rfl rfl (by assumption)) rfl rfl ?_
        refine TQ.pv (PV.load1 rfl zq0 rfl) (Wanted.guard rfl rfl (by assumption)) rfl rfl ?_
        refine TQ.pv (PV.neq rfl rfl) (Wanted.guard rfl rfl (by assumption)) rfl rfl ?_
        refine TQ.pv (PV.pickT rfl (by assumption) rfl) Wanted.none rfl rfl ?_
        refine TQ.nil ?_
        refine T.condT rfl (by assumption) ?_
        refine sr ?_
        refine sm ?_
        refine sf ?_
        refine sl ?_
        refine T.callV Wanted.none rfl rfl (foldRune_fn x.r H1 (by omega)) ?_
        refine sv (PV.convRune rfl) ?_
        refine sv (PV.sadd rfl rfl (by omega)) ?_
        refine sa ?_
        refine so ?_
        refine T.blkEnd ?_
        refine sr ?_
        refine sv (PV.add rfl rfl (by omega)) ?_
        refine sm ?_
        refine so ?_
        have he : Utf8.encode (lowerR x.r) = ⟨(foldU s x).toArray⟩ := by unfold foldU; rw [if_pos hlo]
        rw [he, happ _ rfl]
        exact T.next (i + 1) (by omega) (by omega) zq8 zq4 rfl
    · have hok' : okU x = false := by simpa using hok
      refine sq ?_
      refine sr ?_
      refine sv (PV.lss rfl rfl) ?_
      refine so ?_
      refine sq ?_
      refine sc rfl (by omega) ?_
      refine T.skip ?_
      refine sq ?_
      refine T.block ?_
      refine sq ?_
      refine sr ?_
      refine sv (PV.indexAddr rfl rfl (by omega)) ?_
      refine sv (PV.loadSubAll rfl (by assumption) (by exact rfl)) ?_
      refine sy fun b5 => ?_
      refine T.storeA Wanted.none rfl rfl zq8 (by exact rfl) zq14 zq13 ?_
      refine so ?_
      refine sq ?_
      refine T.regionQ (by kernel_rfl) ?_
      refine TQ.pv (PV.fieldAddr rfl) Wanted.none rfl rfl ?_
      refine TQ.pv (PV.load1 rfl zq0 rfl) Wanted.none rfl rfl ?_
      refine TQ.pv (PV.move rfl) Wanted.none rfl rfl ?_
      refine TQ.pass (Unwanted.guard rfl rfl (by assumption)) rfl rfl ?_
      refine TQ.pass (Unwanted.guard rfl rfl (by assumption)) rfl rfl ?_
      refine TQ.pass (Unwanted.guard rfl rfl (by assumption)) rfl rfl ?_
      refine TQ.pass (Unwanted.guard rfl rfl (by assumption)) rfl rfl ?_
      refine TQ.pass (Unwanted.guard rfl rfl (by assumption)) rfl rfl ?_
      refine TQ.pass (Unwanted.guard rfl rfl (by assumption)) rfl rfl ?_
      refine TQ.pv (PV.pickF rfl (by assumption) rfl) Wanted.none rfl rfl ?_
      refine TQ.nil ?_
      refine T.condF rfl rfl ?_
      refine sr ?_
      refine sm ?_
      refine sm ?_
      refine sf ?_
      refine sl ?_
      refine sf ?_
      refine sl ?_
      refine sf ?_
      refine sl ?_
      refine sv (PV.add rfl rfl (by omega)) ?_
      refine sv (PV.sliceStr rfl rfl rfl (by omega)) ?_
      have hlo : lowerR x.r = x.r := by
        have : x.r = 65533 := by simp [okU] at hok'; omega
        rw [this]; decide
      rw [extract_piece]
      refine sv (PV.sadd rfl rfl ?_) ?_
      · omega
      rw [happ _ (by unfold foldU; rw [if_neg (by simpa using hlo)])]
      refine sa ?_
      refine so ?_
      refine T.blkEnd ?_
      refine sr ?_
      refine sv (PV.add rfl rfl (by omega)) ?_
      refine sm ?_
      refine so ?_
      exact T.next (i + 1) (by omega) (by omega) zq8 zq4 rfl
  · refine sq ?_
    refine sr ?_
    refine sv (PV.lss rfl rfl) ?_
    refine so ?_
    refine sq ?_
    refine sd rfl (by omega) ?_
    refine T.exit rfl ?_
    refine sq ?_
    refine sr ?_
    refine sm ?_
    refine sa ?_
    refine so ?_
    refine T.retF (Lv.fin (RV.tmp rfl rfl) ?_)
    rw [List.take_of_length_le (by omega)]
    rfl
set_option maxHeartbeats 1000000 in
theorem refReverse_fn (s : ByteArray) (H : Hp) (hs : s.size ≤ 20000) : Fn Tryz.prog 50 #[.string s] H (fun v _ => v = .string ⟨(revL s).toArray⟩) := by
  refine Fn.of_T (vs := [.string s]) Tryz.func50 rfl rfl fun w => ?_
  refine sq ?_
  refine sr ?_
  refine sa ?_
  refine so ?_
  refine sq ?_
  refine sr ?_
  refine sa ?_
  refine so ?_
  refine sq ?_
  refine sq ?_
  refine sr ?_
  refine sm ?_
  refine T.call Wanted.none rfl rfl (refUnits_fn s H hs) ?_
  intro vl H1 hH1 hsl
  obtain ⟨adl, capl, rfl⟩ := hsl.len
  have hul := units_len s
  refine sv (PV.lenSl rfl) ?_
  refine sm ?_
  refine so ?_
  refine T.block ?_
  refine T.loop (γ := Nat) (fun i => i ≤ (units s).length)
    (fun i => [(0, .string s), (9, .int .i64 (i : Int)), (8, .int .i64 ((units s).length : Int)), (7, .slice adl (units s).length capl), (3, .string ⟨(((units s).take i).reverse.flatMap (piece s)).toArray⟩)])
    (fun _ => []) (fun _ => H1) (fun i => (units s).length - i) 0 (by simp) zq8 zq4 rfl ?_
  intro i h1
  by_cases hi : i < (units s).length
  · obtain ⟨x, hx⟩ : ∃ x, (units s)[i]? = some x := ⟨_, List.getElem?_eq_getElem hi⟩
    obtain ⟨m1, m2, m3, m4, m5⟩ := units_mem (List.mem_of_getElem? hx)
    obtain ⟨b, off, cap', hve, hsub⟩ := hsl.elem (i := i) (by omega) (flat_elem encF_len (units s) i x hx)
    injection hve with e1 e2 e3
    subst e1 e3
    have hpl := piece_le s x
    have hz1 : ByteArray.size ⟨(((units s).take i).reverse.flatMap (piece s)).toArray⟩ ≤ 4 * 20000 := by
      have h2 := flat_le (f := piece s) (m := 4) ((units s).take i).reverse (fun y hy => by
        have hy := List.mem_of_mem_take (List.mem_reverse.1 hy)
        have := piece_le s y; have := (units_mem hy).2.2.1; omega)
      have h3 : ((units s).take i).reverse.length ≤ 20000 := by rw [List.length_reverse, List.length_take]; omega
      have h4 : ByteArray.size ⟨(((units s).take i).reverse.flatMap (piece s)).toArray⟩ = (((units s).take i).reverse.flatMap (piece s)).length := by simp [ByteArray.size]
      omega
    have hz2 : ByteArray.size ⟨(piece s x).toArray⟩ ≤ 4 := by
      have : ByteArray.size ⟨(piece s x).toArray⟩ = (piece s x).length := by simp [ByteArray.size]
      omega
    have happ : (⟨(piece s x).toArray⟩ : ByteArray) ++ ⟨(((units s).take i).reverse.flatMap (piece s)).toArray⟩ = ⟨(((units s).take (i + 1)).reverse.flatMap (piece s)).toArray⟩ := by
      rw [List.take_add_one, hx]
      exact congrArg ByteArray.mk (by simp)
    refine sq ?_
    refine sr ?_
    refine sv (PV.lss rfl rfl) ?_
    refine so ?_
    refine sq ?_
    refine sc rfl (by omega) ?_
    refine T.skip ?_
    refine sq ?_
    refine T.block ?_
    refine sq ?_
    refine sr ?_
    refine sv (PV.indexAddr rfl rfl (by omega)) ?_
    refine sv (PV.loadSubAll rfl (by assumption) (by exact rfl)) ?_
    refine sy fun b5 => ?_
    refine T.storeA Wanted.none rfl rfl zq8 (by exact rfl) zq14 zq13 ?_
    refine so ?_
    refine sr ?_
    refine sm ?_
    refine sf ?_
    refine sl ?_
    refine sf ?_
    refine sl ?_
    refine sf ?_
    refine sl ?_
    refine sv (PV.add rfl rfl (by omega)) ?_
    refine sv (PV.sliceStr rfl rfl rfl (by omega)) ?_
    refine sm ?_
    rw [extract_piece]
    refine sv (PV.sadd rfl rfl ?_) ?_
    · omega
    rw [happ]
    refine sa ?_
    refine so ?_
    refine T.blkEnd ?_
    refine sr ?_
    refine sv (PV.add rfl rfl (by omega)) ?_
    refine sm ?_
    refine so ?_
    exact T.next (i + 1) (by omega) (by omega) zq8 zq4 rfl
  · refine sq ?_
    refine sr ?_
    refine sv (PV.lss rfl rfl) ?_
    refine so ?_
    refine sq ?_
    refine sd rfl (by omega) ?_
    refine T.exit rfl ?_
    refine sq ?_
    refine sr ?_
    refine sm ?_
    refine sa ?_
    refine so ?_
    refine T.retF (Lv.fin (RV.tmp rfl rfl) ?_)
    rw [List.take_of_length_le (by omega)]
    rfl
end Go.Proofs.YtlklcjpmfjmenaaGreatDoor
