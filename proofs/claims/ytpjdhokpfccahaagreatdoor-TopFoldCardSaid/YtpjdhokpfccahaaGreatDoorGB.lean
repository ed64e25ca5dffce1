/- lines: codepoint: Fold, Reverse.
   features: values, sets of features. -/
import Derived.Test.YtpjdhokpfccahaaGreatDoorGA
namespace Go.Proofs.YtpjdhokpfccahaaGreatDoor
open Go.RowKit


def encU (u : U) : List Value := [.agg #[.int .i32 (u.r : Int), .int .i64 (u.at_ : Int), .int .i64 (u.sz : Int)]]

structure UnG where
  n : Nat
  p : Nat
  k : Nat
  r : Int
  at_ : Int
  sz : Int
  lc : List (Nat × Obj)
  H : Hp

set_option maxHeartbeats 1000000 in
theorem units_iter (s : ByteArray) (bs : Nat) (H : Hp) (fz : Nat × Nat) (hs : s.size ≤ 140737488355328) (hbs : H bs = some (.cells #[.string s] 9 fz)) :
    Iter Tryz.prog 36 [.pointer (some ⟨bs, 0, none⟩)] H (units s) encU := by
  refine Iter.of_T Tryz.func36 rfl rfl fun x0 L I Ix hY lc Hc h0 hle => ?_
  have hbs' := hle _ _ hbs
  refine zs3 ?_; refine sv (PV.build rfl zq12) ?_; refine sy fun b3 => ?_; refine T.storeA Wanted.none rfl rfl zq8 (by exact rfl) zq14 zq13 ?_; refine so ?_; refine sq ?_; refine zs3 ?_; refine sl ?_; (refine T.rangeStr Wanted.none rfl rfl ?_; intro b8); refine so ?_; refine T.block ?_
  refine T.loop (γ := UnG) (fun g => I g.k g.lc g.H ∧ Hc.le g.H ∧ s.size ≤ g.p + g.n ∧ g.p ≤ s.size ∧ -1 ≤ g.at_ ∧ g.at_ ≤ g.p ∧
      ((g.at_ = -1 ∧ g.k = 0 ∧ g.p = 0 ∧ units s = unitsFrom s g.n 0) ∨ ∃ r a : Nat, g.r = r ∧ g.at_ = a ∧ a ≤ g.p ∧ (units s).drop g.k = ⟨r, a, g.p - a⟩ :: unitsFrom s g.n g.p))
    (fun g => [(0, .func (.yield L) #[] #[]), (1, .pointer (some ⟨bs, 0, none⟩)), (3, .pointer (some ⟨b3, 0, none⟩)), (8, .pointer (some ⟨b8, 0, none⟩))])
    (fun g => (b8, .stringIter s g.p) :: (b3, .cells #[.int .i32 g.r, .int .i64 g.at_, .int .i64 g.sz] 68 (0, 0)) :: g.lc)
    (fun g => g.H) (fun g => g.n) ⟨s.size, 0, 0, 0, -1, 0, lc, Hc⟩ ⟨h0, Hp.le.refl _, by simp, by simp, by simp, by simp, .inl ⟨rfl, rfl, rfl, rfl⟩⟩ zq8 zq4 rfl ?_
  rintro ⟨n, p, k, r, at_, sz, lc, Hk⟩ ⟨hI, hHk, h2, h3, h4, h5, h6⟩
  dsimp only at hI hHk h2 h3 h4 h5 h6 ⊢
  have hbk := hHk _ _ hbs'
  refine zs3 ?_
  by_cases hp : p < s.size
  · obtain ⟨d1, d2, d3⟩ := decode_width s p hp
    obtain ⟨rr, wd, hd⟩ : ∃ r wd, Utf8.decode s p = (r, wd) := ⟨_, _, rfl⟩
    rw [hd] at d1 d2 d3
    dsimp only at d1 d2 d3
    obtain ⟨n, rfl⟩ : ∃ m, n = m + 1 := ⟨n - 1, by omega⟩
    refine T.nextStr zq22 rfl rfl (by assumption) (by assumption) zq14 ?_
    rcases h6 with ⟨rfl, rfl, rfl, h7⟩ | ⟨r, a, rfl, rfl, ha, h7⟩
    · refine sv (PV.extract rfl rfl) ?_; refine so ?_; refine sq ?_; refine T.condT rfl rfl ?_; refine T.skip ?_; refine T.block ?_; refine zs3 ?_; refine sv (PV.extract rfl rfl) ?_; refine sv (PV.extract rfl rfl) ?_; refine sa ?_; refine sa ?_; refine zs1 ?_; refine sm ?_; refine sf ?_; refine sl ?_; refine sv (PV.sub rfl rfl (by omega)) ?_; refine sf ?_; refine T.store1 Wanted.none rfl rfl rfl zq14 zq13 ?_; refine so ?_; refine sq ?_; refine zs3 ?_; refine sf ?_; refine sl ?_; refine sv (PV.geq rfl rfl) ?_; refine sm ?_; refine sp ?_; refine sp ?_; refine sp ?_; refine sp ?_; refine sF ?_; refine so ?_; refine T.condF rfl rfl ?_; refine T.skip ?_; refine sr ?_; refine sm ?_; refine sm ?_; refine sv (PV.build rfl zq12) ?_; refine T.storeA Wanted.none rfl rfl zq8 (by exact rfl) zq14 zq13 ?_; refine so ?_; refine T.blkEnd ?_
      refine T.next ⟨n, 0 + wd, 0, rr, 0, 0, lc, Hk⟩ ⟨hI, hHk, by dsimp only; omega, by dsimp only; omega, by dsimp only; omega, by dsimp only; omega, .inr ⟨rr, 0, rfl, rfl, by dsimp only; omega, ?_⟩⟩ (by dsimp only; omega) zq8 zq4 rfl
      rw [h7, unitsFrom, if_pos hp, hd]; simp
    · refine sv (PV.extract rfl rfl) ?_; refine so ?_; refine sq ?_; refine T.condT rfl rfl ?_; refine T.skip ?_; refine T.block ?_; refine zs3 ?_; refine sv (PV.extract rfl rfl) ?_; refine sv (PV.extract rfl rfl) ?_; refine sa ?_; refine sa ?_; refine zs1 ?_; refine sm ?_; refine sf ?_; refine sl ?_; refine sv (PV.sub rfl rfl (by omega)) ?_; refine sf ?_; refine T.store1 Wanted.none rfl rfl rfl zq14 zq13 ?_; refine so ?_; refine sq ?_; refine zs3 ?_; refine sf ?_; refine sl ?_; refine sv (PV.geq rfl rfl) ?_; refine sm ?_; refine gm ?_; refine gv (PV.loadAll rfl zq0 (by exact rfl)) ?_; refine T.setT (d := 21) rfl (by omega) ?_
      have hk : (units s)[k]? = some ⟨r, a, p - a⟩ := by have := congrArg (fun l => l[0]?) h7; simpa using this
      have hcast : ((p - a : Nat) : Int) = (p : Int) - a := by omega
      refine T.yield (li := [_, _]) hY (Wanted.guard rfl rfl rfl) rfl rfl hk (by show _ = some [Value.agg #[.int .i32 (r : Int), .int .i64 (a : Int), .int .i64 ((p - a : Nat) : Int)]]; rw [hcast]; rfl) hI ?_ ?_
      · intro lc' H' hle' hI'
        refine gv (PV.not rfl) ?_; refine sT ?_; refine so ?_; refine T.condF rfl rfl ?_; refine T.skip ?_; refine sr ?_; refine sm ?_; refine sm ?_; refine sv (PV.build rfl zq12) ?_; refine T.storeA Wanted.none rfl rfl zq8 (by exact rfl) zq14 zq13 ?_; refine so ?_; refine T.blkEnd ?_
        refine T.next ⟨n, p + wd, k + 1, rr, p, 0, lc', H'⟩ ⟨hI', hHk.trans hle', by dsimp only; omega, by dsimp only; omega, by dsimp only; omega, by dsimp only; omega, .inr ⟨rr, p, rfl, rfl, by dsimp only; omega, ?_⟩⟩ (by dsimp only; omega) zq8 zq4 rfl
        have h8 : (units s).drop (k + 1) = unitsFrom s (n + 1) p := by rw [← List.drop_drop, h7]; rfl
        dsimp only
        rw [h8, unitsFrom, if_pos hp, hd, Nat.add_sub_cancel_left]
      · intro lc' H' hle' hI'
        refine gv (PV.not rfl) ?_; refine sT ?_; refine so ?_; refine T.condT rfl rfl ?_
        exact T.retI rfl lc' zq4 (hHk.trans hle') (.inr hI')
  · refine T.nextStrEnd zq22 rfl rfl zq2 (by omega) ?_
    rcases h6 with ⟨rfl, rfl, rfl, h7⟩ | ⟨r, a, rfl, rfl, ha, h7⟩
    · refine sv (PV.extract rfl rfl) ?_; refine so ?_; refine sq ?_; refine T.condF rfl rfl ?_; refine T.exit rfl ?_; refine zs3 ?_; refine sl ?_; refine sv (PV.lenStr rfl) ?_; refine sf ?_; refine sl ?_; refine sv (PV.sub rfl rfl (by omega)) ?_; refine sf ?_; refine T.store1 Wanted.none rfl rfl rfl zq14 zq13 ?_; refine zs1 ?_; refine sf ?_; refine sl ?_; refine sv (PV.geq rfl rfl) ?_; refine so ?_; refine T.condF rfl rfl ?_; refine T.skip ?_
      have h0 : units s = [] := by rw [h7]; cases n <;> simp [unitsFrom, hp]
      refine T.fallI rfl lc zq4 hHk (.inl ?_)
      rw [h0]; exact hI
    · refine sv (PV.extract rfl rfl) ?_; refine so ?_; refine sq ?_; refine T.condF rfl rfl ?_; refine T.exit rfl ?_; refine zs3 ?_; refine sl ?_; refine sv (PV.lenStr rfl) ?_; refine sf ?_; refine sl ?_; refine sv (PV.sub rfl rfl (by omega)) ?_; refine sf ?_; refine T.store1 Wanted.none rfl rfl rfl zq14 zq13 ?_; refine zs1 ?_; refine sf ?_; refine sl ?_; refine sv (PV.geq rfl rfl) ?_; refine so ?_; refine T.condT rfl rfl ?_; refine sr ?_; refine sm ?_; refine sv (PV.loadAll rfl zq0 (by exact rfl)) ?_
      have hp0 : p = s.size := by omega
      have h8 : unitsFrom s n p = [] := by cases n <;> simp [unitsFrom, hp]
      rw [h8] at h7
      have hk : (units s)[k]? = some ⟨r, a, p - a⟩ := by have := congrArg (fun l => l[0]?) h7; simpa using this
      have hlen : (units s).length = k + 1 := by
        have := congrArg List.length h7
        simp at this
        have h9 := (List.getElem?_eq_some_iff.1 hk).1
        omega
      have hcast : ((p - a : Nat) : Int) = (s.size : Int) - a := by omega
      refine T.yield (li := [_, _]) hY Wanted.none rfl rfl hk (by show _ = some [Value.agg #[.int .i32 (r : Int), .int .i64 (a : Int), .int .i64 ((p - a : Nat) : Int)]]; rw [hcast]; rfl) hI ?_ ?_
      · intro lc' H' hle' hI'
        refine so ?_
        exact T.fallI rfl lc' zq4 (hHk.trans hle') (.inl (by rw [hlen]; exact hI'))
      · intro lc' H' hle' hI'
        refine so ?_
        exact T.fallI rfl lc' zq4 (hHk.trans hle') (.inr hI')

theorem units_fn (s : ByteArray) (H : Hp) : Fn Tryz.prog 19 #[.string s] H (fun v H' => ∃ bs, v = .func (.func 36) #[] #[.pointer (some ⟨bs, 0, none⟩)] ∧ H' bs = some (.cells #[.string s] 9 (0, 0))) := by
  refine Fn.of_T (vs := [.string s]) Tryz.func19 rfl rfl fun w => ?_; refine zs3 ?_; (refine T.box Wanted.none rfl rfl zq15 ?_; intro b1); refine sa ?_; refine zs1 ?_; refine sv (PV.makeFunc rfl) ?_; refine sa ?_; refine so ?_
  refine T.retF (Lv.freeze (Lv.fin (RV.tmp rfl rfl) ⟨_, rfl, Hp.put_same⟩))

theorem lower_fn (r : Int) (H : Hp) (hr : 0 ≤ r ∧ r ≤ 1114111) : Fn Tryz.prog 20 #[.int .i32 r] H (fun v _ => v = .int .i32 (lowerR r)) := by
  refine Fn.of_T (vs := [.int .i32 r]) Tryz.func20 rfl rfl fun w => ?_; refine zs3 ?_; refine sa ?_; refine so ?_; refine sq ?_; refine T.block ?_; refine sq ?_; refine zs3 ?_; refine sm ?_; refine sv (PV.geq rfl rfl) ?_; refine sm ?_
  refine T.splitD (d := 6) rfl (fun h0 => ?_) (fun h0 => ?_)
  · refine gm ?_; refine gv (PV.leq rfl rfl) ?_; refine sT ?_; refine sa ?_; refine so ?_
    refine T.condD rfl (fun h1 => ?_) (fun h1 => ?_)
    · refine T.skip ?_; refine sC rfl (by omega) ?_; refine zs3 ?_; refine sm ?_; refine sv (PV.add32 rfl rfl (by omega)) ?_; refine sa ?_; refine so ?_; (refine T.retF (Lv.fin (RV.tmp rfl rfl) ?_); congr 1; unfold lowerR; split <;> (try split) <;> omega)
    · refine zs3 ?_; refine sm ?_; refine sv (PV.geq rfl rfl) ?_; refine sm ?_
      refine T.splitD (d := 12) rfl (fun h2 => ?_) (fun h2 => ?_)
      · refine gm ?_; refine gv (PV.leq rfl rfl) ?_; refine sT ?_; refine sm ?_
        refine T.splitD (d := 16) rfl (fun h3 => ?_) (fun h3 => ?_)
        · refine gm ?_; refine gv (PV.neq rfl rfl) ?_; refine sT ?_; refine sa ?_; refine so ?_
          refine T.condD rfl (fun h4 => ?_) (fun h4 => ?_)
          · refine T.skip ?_; refine sC rfl (by omega) ?_; refine zs3 ?_; refine sm ?_; refine sv (PV.add32 rfl rfl (by omega)) ?_; refine sa ?_; refine so ?_; (refine T.retF (Lv.fin (RV.tmp rfl rfl) ?_); congr 1; unfold lowerR; split <;> (try split) <;> omega)
          · refine zs3 ?_; refine sm ?_; refine sv (PV.geq rfl rfl) ?_; refine sm ?_; refine T.setF (d := 22) rfl (by omega) ?_; refine sp ?_; refine sp ?_; refine sF ?_; refine sm ?_; refine sp ?_; refine sp ?_; refine sF ?_; refine sa ?_; refine so ?_; refine T.condF rfl rfl ?_; refine sr ?_; refine sm ?_; refine sv (PV.geq rfl rfl) ?_; refine sm ?_; refine T.setF (d := 32) rfl (by omega) ?_; refine sp ?_; refine sp ?_; refine sF ?_; refine sa ?_; refine so ?_; refine T.condF rfl rfl ?_; refine zs3 ?_; refine sm ?_; refine sv (PV.geq rfl rfl) ?_; refine sm ?_; refine T.setF (d := 41) rfl (by omega) ?_; refine sp ?_; refine sp ?_; refine sF ?_; refine sa ?_; refine so ?_; refine T.condF rfl rfl ?_; refine T.skip ?_; refine T.blkEnd ?_; refine zs3 ?_
            refine sm ?_; refine sa ?_; refine so ?_; (refine T.retF (Lv.fin (RV.tmp rfl rfl) ?_); congr 1; unfold lowerR; split <;> (try split) <;> omega)
        · refine sp ?_; refine sp ?_; refine sF ?_; refine sa ?_; refine so ?_; refine T.condF rfl rfl ?_; refine zs3 ?_; refine sm ?_; refine sv (PV.geq rfl rfl) ?_; refine sm ?_
          refine T.splitD (d := 22) rfl (fun h4 => ?_) (fun h4 => ?_)
          · refine gm ?_; refine gv (PV.leq rfl rfl) ?_; refine sT ?_; refine sm ?_
            refine T.splitD (d := 26) rfl (fun h5 => ?_) (fun h5 => ?_)
            · refine gm ?_; refine gv (PV.neq rfl rfl) ?_; refine sT ?_; refine sa ?_; refine so ?_
              refine T.condD rfl (fun h6 => ?_) (fun h6 => ?_)
              · refine T.skip ?_; refine sC rfl (by omega) ?_; refine zs3 ?_; refine sm ?_; refine sv (PV.add32 rfl rfl (by omega)) ?_; refine sa ?_; refine so ?_; (refine T.retF (Lv.fin (RV.tmp rfl rfl) ?_); congr 1; unfold lowerR; split <;> (try split) <;> omega)
              · refine sr ?_; refine sm ?_; refine sv (PV.geq rfl rfl) ?_; refine sm ?_; refine T.setF (d := 32) rfl (by omega) ?_; refine sp ?_; refine sp ?_; refine sF ?_; refine sa ?_; refine so ?_; refine T.condF rfl rfl ?_; refine zs3 ?_; refine sm ?_; refine sv (PV.geq rfl rfl) ?_; refine sm ?_; refine T.setF (d := 41) rfl (by omega) ?_; refine sp ?_; refine sp ?_; refine sF ?_; refine sa ?_; refine so ?_; refine T.condF rfl rfl ?_; refine T.skip ?_; refine T.blkEnd ?_; refine zs3 ?_; refine sm ?_; refine sa ?_; refine so ?_; (refine T.retF (Lv.fin (RV.tmp rfl rfl) ?_); congr 1; unfold lowerR; split <;> (try split) <;> omega)
            · refine sp ?_; refine sp ?_; refine sF ?_; refine sa ?_; refine so ?_; refine T.condF rfl rfl ?_; refine sr ?_; refine sm ?_; refine sv (PV.geq rfl rfl) ?_; refine sm ?_
              refine T.splitD (d := 32) rfl (fun h6 => ?_) (fun h6 => ?_)
              · refine gm ?_; refine gv (PV.leq rfl rfl) ?_; refine sT ?_; refine sa ?_; refine so ?_
                refine T.condD rfl (fun h7 => ?_) (fun h7 => ?_)
                · refine zs3 ?_; refine sm ?_; refine sv (PV.add32 rfl rfl (by omega)) ?_; refine sa ?_; refine so ?_; (refine T.retF (Lv.fin (RV.tmp rfl rfl) ?_); congr 1; unfold lowerR; split <;> (try split) <;> omega)
                · refine zs3 ?_; refine sm ?_; refine sv (PV.geq rfl rfl) ?_; refine sm ?_; refine T.setT (d := 41) rfl (by omega) ?_; refine gm ?_; refine gv (PV.leq rfl rfl) ?_; refine sT ?_; refine sa ?_; refine so ?_; refine sd rfl (by omega) ?_; refine T.skip ?_; refine T.blkEnd ?_; refine zs3 ?_; refine sm ?_; refine sa ?_; refine so ?_; (refine T.retF (Lv.fin (RV.tmp rfl rfl) ?_); congr 1; unfold lowerR; split <;> (try split) <;> omega)
              · refine sp ?_; refine sp ?_; refine sF ?_; refine sa ?_; refine so ?_; refine T.condF rfl rfl ?_; refine zs3 ?_; refine sm ?_; refine sv (PV.geq rfl rfl) ?_; refine sm ?_
                refine T.splitD (d := 41) rfl (fun h7 => ?_) (fun h7 => ?_)
                · refine gm ?_; refine gv (PV.leq rfl rfl) ?_; refine sT ?_; refine sa ?_; refine so ?_; refine sC rfl (by omega) ?_; refine zs3 ?_; refine sm ?_; refine sv (PV.add32 rfl rfl (by omega)) ?_; refine sa ?_; refine so ?_; (refine T.retF (Lv.fin (RV.tmp rfl rfl) ?_); congr 1; unfold lowerR; split <;> (try split) <;> omega)
                · refine sp ?_; refine sp ?_; refine sF ?_; refine sa ?_; refine so ?_; refine T.condF rfl rfl ?_; refine T.skip ?_; refine T.blkEnd ?_; refine zs3 ?_; refine sm ?_; refine sa ?_; refine so ?_; (refine T.retF (Lv.fin (RV.tmp rfl rfl) ?_); congr 1; unfold lowerR; split <;> (try split) <;> omega)
          · refine sp ?_; refine sp ?_; refine sF ?_; refine sm ?_; refine sp ?_; refine sp ?_; refine sF ?_; refine sa ?_; refine so ?_; refine T.condF rfl rfl ?_; refine sr ?_; refine sm ?_; refine sv (PV.geq rfl rfl) ?_; refine sm ?_; refine T.setF (d := 32) rfl (by omega) ?_; refine sp ?_; refine sp ?_; refine sF ?_; refine sa ?_; refine so ?_; refine T.condF rfl rfl ?_; refine zs3 ?_; refine sm ?_; refine sv (PV.geq rfl rfl) ?_; refine sm ?_; refine T.setF (d := 41) rfl (by omega) ?_; refine sp ?_; refine sp ?_; refine sF ?_; refine sa ?_; refine so ?_; refine T.condF rfl rfl ?_; refine T.skip ?_; refine T.blkEnd ?_; refine zs3 ?_; refine sm ?_; refine sa ?_; refine so ?_; (refine T.retF (Lv.fin (RV.tmp rfl rfl) ?_); congr 1; unfold lowerR; split <;> (try split) <;> omega)
      · refine sp ?_; refine sp ?_; refine sF ?_; refine sm ?_; refine sp ?_; refine sp ?_; refine sF ?_; refine sa ?_; refine so ?_; refine T.condF rfl rfl ?_; refine zs3 ?_; refine sm ?_; refine sv (PV.geq rfl rfl) ?_; refine sm ?_; refine T.setF (d := 22) rfl (by omega) ?_; refine sp ?_; refine sp ?_; refine sF ?_; refine sm ?_; refine sp ?_; refine sp ?_; refine sF ?_; refine sa ?_; refine so ?_; refine T.condF rfl rfl ?_; refine sr ?_; refine sm ?_; refine sv (PV.geq rfl rfl) ?_; refine sm ?_; refine T.setF (d := 32) rfl (by omega) ?_; refine sp ?_; refine sp ?_; refine sF ?_; refine sa ?_; refine so ?_; refine T.condF rfl rfl ?_; refine zs3 ?_; refine sm ?_; refine sv (PV.geq rfl rfl) ?_; refine sm ?_
        refine T.setF (d := 41) rfl (by omega) ?_; refine sp ?_; refine sp ?_; refine sF ?_; refine sa ?_; refine so ?_; refine T.condF rfl rfl ?_; refine T.skip ?_; refine T.blkEnd ?_; refine zs3 ?_; refine sm ?_; refine sa ?_; refine so ?_; (refine T.retF (Lv.fin (RV.tmp rfl rfl) ?_); congr 1; unfold lowerR; split <;> (try split) <;> omega)
  · refine sp ?_; refine sp ?_; refine sF ?_; refine sa ?_; refine so ?_; refine T.condF rfl rfl ?_; refine zs3 ?_; refine sm ?_; refine sv (PV.geq rfl rfl) ?_; refine sm ?_; refine T.setF (d := 12) rfl (by omega) ?_; refine sp ?_; refine sp ?_; refine sF ?_; refine sm ?_; refine sp ?_; refine sp ?_; refine sF ?_; refine sa ?_; refine so ?_; refine T.condF rfl rfl ?_; refine zs3 ?_; refine sm ?_; refine sv (PV.geq rfl rfl) ?_; refine sm ?_; refine T.setF (d := 22) rfl (by omega) ?_; refine sp ?_; refine sp ?_; refine sF ?_; refine sm ?_; refine sp ?_; refine sp ?_; refine sF ?_; refine sa ?_; refine so ?_; refine T.condF rfl rfl ?_; refine sr ?_; refine sm ?_; refine sv (PV.geq rfl rfl) ?_; refine sm ?_
    refine T.setF (d := 32) rfl (by omega) ?_; refine sp ?_; refine sp ?_; refine sF ?_; refine sa ?_; refine so ?_; refine T.condF rfl rfl ?_; refine zs3 ?_; refine sm ?_; refine sv (PV.geq rfl rfl) ?_; refine sm ?_; refine T.setF (d := 41) rfl (by omega) ?_; refine sp ?_; refine sp ?_; refine sF ?_; refine sa ?_; refine so ?_; refine T.condF rfl rfl ?_; refine T.skip ?_; refine T.blkEnd ?_; refine zs3 ?_; refine sm ?_; refine sa ?_; refine so ?_; (refine T.retF (Lv.fin (RV.tmp rfl rfl) ?_); congr 1; unfold lowerR; split <;> (try split) <;> omega)
theorem one_bytesV (l : List UInt8) : ∀ v ∈ bytesV l, v.oneCell' = true := by
  intro v hv
  obtain ⟨b, _, rfl⟩ := List.mem_map.1 hv
  rfl
theorem bytesV_append (a b : List UInt8) : bytesV (a ++ b) = bytesV a ++ bytesV b := by simp [bytesV]
theorem Src.bytes {P : Program} {l : List (Nat × Obj)} {H : Hp} {bs : List UInt8} : Src P l H 1 (.string ⟨bs.toArray⟩) bs.length (bytesV bs) := by
  have := Src.str (P := P) (l := l) (H := H) (s := ⟨bs.toArray⟩)
  simpa [ByteArray.size] using this
theorem fold_len (s : ByteArray) (n : Nat) (hs : s.size ≤ 20000) : (((units s).take n).flatMap (foldU s)).length ≤ 4 * 20000 := by
  have hul := units_len s
  have := flat_le (f := foldU s) (m := 4) ((units s).take n) (fun y hy => foldU_le (List.mem_of_mem_take hy))
  have h2 : ((units s).take n).length ≤ 20000 := by rw [List.length_take]; omega
  omega

set_option maxHeartbeats 1000000 in
theorem fold_fn (s : ByteArray) (H : Hp) (hs : s.size ≤ 20000) : Fn Tryz.prog 7 #[.string s] H (fun v _ => v = .string ⟨(foldL s).toArray⟩) := by
  refine Fn.of_T (vs := [.string s]) Tryz.func7 rfl rfl fun w => ?_; refine zs3 ?_; (refine T.box Wanted.none rfl rfl zq15 ?_; intro b1); refine sa ?_; refine zs1 ?_; refine sl ?_; refine sv (PV.lenStr rfl) ?_; refine T.makeSlice0 Wanted.none rfl rfl rfl (by omega) ?_
  intro v0 lv0 hv0 hnn
  refine T.perm List.perm_append_comm ?_
  obtain ⟨ad0, cap0, rfl⟩ := hv0.val
  refine sy fun b3 => ?_; refine T.store1 Wanted.none rfl rfl rfl zq14 zq13 ?_; refine so ?_; refine sq ?_; refine zs3 ?_; refine sl ?_; refine T.call Wanted.none rfl rfl (units_fn s H) ?_
  rintro _ H1 hH1 ⟨bs, rfl, hb⟩
  refine so ?_; refine T.block ?_
  have hul := units_len s
  refine T.rangeFunc rfl rfl (units_iter s bs H1 _ (by omega) hb) (fun _ => rfl) rfl (by decide)
    (fun n lk _ => ∃ v lv, lk = (b3, .cells #[v] 64 (0, 0)) :: (b1, .cells #[.string s] 9 (0, 0)) :: lv ∧ Vec 5 1 v lv (((units s).take n).flatMap (foldU s)).length (bytesV (((units s).take n).flatMap (foldU s))))
    (fun c lk _ => False)
    ⟨_, lv0, rfl, hv0⟩ ?_ ?_ ?_
  · rintro n x lk Hk hx ⟨v, lv, rfl, hv⟩ hle L rec lo hrec
    have hn := (List.getElem?_eq_some_iff.1 hx).1
    have hm := List.mem_of_getElem? hx
    obtain ⟨m1, m2, m3, m4, m5⟩ := units_mem hm
    have hlen := fold_len s n hs
    have hel := encode_le (lowerR x.r)
    have hpl := piece_le s x
    obtain ⟨ad, cap, rfl⟩ := hv.val
    have hnx : ((units s).take (n + 1)).flatMap (foldU s) = ((units s).take n).flatMap (foldU s) ++ foldU s x := by
      rw [List.take_add_one, hx]; simp
    refine sr ?_; refine sy fun b4 => ?_; refine T.storeA Wanted.none rfl rfl zq8 (by exact rfl) zq14 zq13 ?_; refine so ?_; refine T.begin (lk := _ :: _ :: _ :: lv) hrec ?_; refine T.block ?_; refine zs3 ?_; refine sf ?_; refine sl ?_; refine T.callV Wanted.none rfl rfl (lower_fn x.r Hk (by omega)) ?_; refine sa ?_; refine zs1 ?_; refine sm ?_; refine sf ?_; refine sl ?_; refine sv (PV.neq rfl rfl) ?_; refine so ?_
    refine T.condD rfl (fun hc => ?_) (fun hc => ?_)
    · have hfu : foldU s x = (Utf8.encode (lowerR x.r)).data.toList := if_pos hc
      refine sr ?_; refine sl ?_; refine sm ?_; refine sv (PV.convRune rfl) ?_; refine T.append [_, _, _] Wanted.none rfl rfl rfl hv Src.str (one_bytesV _) (by omega) ?_
      intro v' lv' hv' hnil
      obtain ⟨ad', cap', rfl⟩ := hv'.val
      refine T.store1 Wanted.none rfl rfl rfl zq14 zq13 ?_; refine so ?_; refine T.blkEnd ?_
      refine T.roundEnd (_ :: _ :: lv') zq4 (Hp.le.refl _) ⟨_, lv', rfl, ?_⟩
      rw [hnx, hfu, bytesV_append, List.length_append]
      simpa using hv'
    · have hfu : foldU s x = piece s x := if_neg hc
      refine T.regionT 10 (by kernel_rfl) ?_; refine TQ.pv (PV.load1 rfl zq0 rfl) Wanted.none rfl rfl ?_; refine TQ.pv (PV.load1 rfl zq0 rfl) Wanted.none rfl rfl ?_; refine TQ.pv (PV.fieldAddr rfl) Wanted.none rfl rfl ?_; refine TQ.pv (PV.load1 rfl zq0 rfl) Wanted.none rfl rfl ?_; refine TQ.pv (PV.fieldAddr rfl) Wanted.none rfl rfl ?_; refine TQ.pv (PV.load1 rfl zq0 rfl) Wanted.none rfl rfl ?_; refine TQ.pv (PV.fieldAddr rfl) Wanted.none rfl rfl ?_; refine TQ.pv (PV.load1 rfl zq0 rfl) Wanted.none rfl rfl ?_; refine TQ.pv (PV.add rfl rfl (by omega)) Wanted.none rfl rfl ?_; refine TQ.pv (PV.sliceStr rfl rfl rfl (by omega)) Wanted.none rfl rfl ?_; refine TQ.nil ?_
      rw [extract_piece]
      refine T.append [_, _, _] Wanted.none rfl rfl rfl hv Src.bytes (one_bytesV _) (by omega) ?_
      intro v' lv' hv' hnil
      obtain ⟨ad', cap', rfl⟩ := hv'.val
      refine T.store1 Wanted.none rfl rfl rfl zq14 zq13 ?_; refine so ?_; refine T.blkEnd ?_
      refine T.roundEnd (_ :: _ :: lv') zq4 (Hp.le.refl _) ⟨_, lv', rfl, ?_⟩
      rw [hnx, hfu, bytesV_append, List.length_append]
      exact hv'
  · rintro r lk Hk hle ⟨v, lv, rfl, hv⟩
    rw [List.take_length] at hv
    obtain ⟨ad, cap, rfl⟩ := hv.val
    refine T.blkEnd ?_; refine zs3 ?_; refine sl ?_; refine sv (PV.bytesStr rfl (Vec.srcE [_, _, _] hv) ⟨_, _, rfl⟩) ?_; refine sa ?_; refine so ?_
    exact T.retF (Lv.mark Upd.head (Lv.fin (RV.tmp rfl rfl) rfl))
  · rintro c r lk Hk hle h; exact h.elim

end Go.Proofs.YtpjdhokpfccahaaGreatDoor
namespace Go.Proofs.YtpjdhokpfccahaaGreatDoor
open Go.RowKit


theorem unitValid_fn (u : U) (H : Hp) : Fn Tryz.prog 30 #[.agg #[.int .i32 (u.r : Int), .int .i64 (u.at_ : Int), .int .i64 (u.sz : Int)]] H (fun v _ => v = .bool (okU u)) := by
  refine Fn.of_T (vs := [.agg #[.int .i32 (u.r : Int), .int .i64 (u.at_ : Int), .int .i64 (u.sz : Int)]]) Tryz.func30 rfl rfl fun w => ?_
  by_cases h : u.r = 65533
  · have h1 : decide ((u.r : Int) ≠ 65533) = false := by simp [h]
    refine zs3 ?_; (refine T.box Wanted.none rfl rfl zq15 ?_; intro b1); refine sa ?_; refine zs1 ?_; refine sf ?_; refine sl ?_; refine sv (PV.neq rfl rfl) ?_; refine sm ?_; refine T.pv (PV.fieldAddr rfl) (Wanted.guard rfl rfl (by assumption)) rfl rfl ?_; refine T.pv (PV.load1 rfl zq0 rfl) (Wanted.guard rfl rfl (by assumption)) rfl rfl ?_; refine T.pv (PV.eql rfl rfl) (Wanted.guard rfl rfl (by assumption)) rfl rfl ?_; refine sv (PV.pickF rfl (by assumption) rfl) ?_; refine sa ?_; refine so ?_
    first | refine T.fallF (Lv.fin zq6 ?_) | refine T.retF (Lv.fin zq6 ?_)
    have : ((u.sz : Int) = 3) = (u.sz = 3) := by rw [eq_iff_iff]; omega
    simp [okU, h, this]
  · have h1 : decide ((u.r : Int) ≠ 65533) = true := by simp; omega
    refine zs3 ?_; (refine T.box Wanted.none rfl rfl zq15 ?_; intro b1); refine sa ?_; refine zs1 ?_; refine sf ?_; refine sl ?_; refine sv (PV.neq rfl rfl) ?_; refine sm ?_; refine T.pass (Unwanted.guard rfl rfl (by assumption)) rfl rfl ?_; refine T.pass (Unwanted.guard rfl rfl (by assumption)) rfl rfl ?_; refine T.pass (Unwanted.guard rfl rfl (by assumption)) rfl rfl ?_; refine sv (PV.pickT rfl (by assumption) rfl) ?_; refine sa ?_; refine so ?_
    first | refine T.fallF (Lv.fin zq6 ?_) | refine T.retF (Lv.fin zq6 ?_)
    simp [okU, h]
set_option maxHeartbeats 1000000 in
theorem validP_fn (s : ByteArray) (H : Hp) (hs : s.size ≤ 20000) : Fn Tryz.prog 14 #[.string s] H (fun v _ => v = .bool (validS s)) := by
  refine Fn.of_T (vs := [.string s]) Tryz.func14 rfl rfl fun w => ?_; refine zs3 ?_; refine sy fun b2 => ?_; refine so ?_; refine sq ?_; refine zs3 ?_; refine sm ?_; refine T.call Wanted.none rfl rfl (units_fn s H) ?_
  rintro _ H1 hH1 ⟨bs, rfl, hb⟩
  refine so ?_; refine T.block ?_
  refine T.rangeFunc rfl rfl (units_iter s bs H1 _ (by omega) hb) (fun _ => rfl) rfl (by decide)
    (fun n lk _ => lk = [(b2, .cells #[.bool false] 4 (0, 0))] ∧ ((units s).take n).all okU = true)
    (fun c lk _ => c = .ret ∧ lk = [(b2, .cells #[.bool false] 4 (0, 0))] ∧ validS s = false)
    ⟨rfl, rfl⟩ ?_ ?_ ?_
  · rintro n x lk Hk hx ⟨rfl, hok⟩ hle L rec lo hrec
    refine sr ?_; refine sy fun b3 => ?_; refine T.storeA Wanted.none rfl rfl zq8 (by exact rfl) zq14 zq13 ?_; refine so ?_; refine T.begin (lk := [_, _]) hrec ?_; refine T.block ?_; refine zs3 ?_; refine sv (PV.loadAll rfl zq0 (by exact rfl)) ?_; refine T.callV Wanted.none rfl rfl (unitValid_fn x Hk) ?_; refine sv (PV.not rfl) ?_; refine so ?_
    refine T.cond rfl (fun hc => ?_) (fun hc => ?_)
    · refine zs3 ?_; refine T.store1 Wanted.none rfl rfl rfl zq14 zq13 ?_; refine so ?_
      refine T.roundRet [_] zq4 (Hp.le.refl _) ⟨rfl, rfl, ?_⟩
      rw [validS, Bool.eq_false_iff]
      intro hall
      rw [List.all_eq_true.1 hall x (List.mem_of_getElem? hx)] at hc
      simp at hc
    · refine T.skip ?_; refine T.blkEnd ?_
      refine T.roundEnd [_] zq4 (Hp.le.refl _) ⟨rfl, ?_⟩
      rw [List.take_add_one, hx, List.all_append, hok]
      simpa using hc
  · rintro r lk Hk hle ⟨rfl, hok⟩
    refine T.blkEnd ?_; refine zs3 ?_; refine T.store1 Wanted.none rfl rfl rfl zq14 zq13 ?_; refine so ?_
    refine T.retF (Lv.mark Upd.head (Lv.fin zq6 ?_))
    rw [List.take_length] at hok
    rw [validS, hok]
  · rintro c r lk Hk hle ⟨rfl, rfl, hok⟩
    refine T.retF (Lv.mark Upd.head (Lv.fin zq6 ?_))
    rw [hok]
/-! ### values -/
def badU (u : U) : Bool := decide ((u.r : Int) ≤ 31) || decide ((u.r : Int) = 127)
/-- the error of a value -/
def vvE (s : ByteArray) : Int := if 120 < s.size then 2 else if validS s = false then 7 else if (units s).any badU then 14 else 0
theorem vvE_size {s : ByteArray} (h : vvE s = 0) : s.size ≤ 120 := by
  unfold vvE at h
  split at h
  · cases h
  · omega
set_option maxHeartbeats 1000000 in
theorem vv_fn (s : ByteArray) (H : Hp) : Fn Tryz.prog 5 #[.string s] H (fun u _ => u = .int .i64 (vvE s)) := by
  refine Fn.of_T (vs := [.string s]) Tryz.func5 rfl rfl fun w => ?_
  unfold vvE
  by_cases h1 : 120 < s.size
  · rw [if_pos h1]
    refine zs3 ?_; refine sa ?_; refine so ?_; refine sq ?_; refine T.block ?_; refine zs3 ?_; refine sm ?_; refine sv (PV.lenStr rfl) ?_; refine sv (PV.gtr rfl rfl) ?_; refine sa ?_; refine so ?_; refine sC rfl (by omega) ?_; refine zs3 ?_; refine sa ?_; refine so ?_
    exact T.retF (Lv.fin (RV.tmp rfl rfl) rfl)
  rw [if_neg h1]
  have hv := validP_fn s H (by omega)
  cases h2 : validS s
  · rw [h2] at hv
    rw [if_pos rfl]
    refine zs3 ?_; refine sa ?_; refine so ?_; refine sq ?_; refine T.block ?_; refine zs3 ?_; refine sm ?_; refine sv (PV.lenStr rfl) ?_; refine sv (PV.gtr rfl rfl) ?_; refine sa ?_; refine so ?_; refine sd rfl (by omega) ?_; refine zs3 ?_; refine sm ?_; refine T.callV Wanted.none rfl rfl (hv) ?_; refine sv (PV.not rfl) ?_; refine sa ?_; refine so ?_; refine T.condT rfl rfl ?_; refine zs3 ?_; refine sa ?_; refine so ?_
    exact T.retF (Lv.fin (RV.tmp rfl rfl) rfl)
  rw [h2] at hv
  rw [if_neg (by decide)]
  refine zs3 ?_; refine sa ?_; refine so ?_; refine sq ?_; refine T.block ?_; refine zs3 ?_; refine sm ?_; refine sv (PV.lenStr rfl) ?_; refine sv (PV.gtr rfl rfl) ?_; refine sa ?_; refine so ?_; refine sd rfl (by omega) ?_; refine zs3 ?_; refine sm ?_; refine T.callV Wanted.none rfl rfl (hv) ?_; refine sv (PV.not rfl) ?_; refine sa ?_; refine so ?_; refine T.condF rfl rfl ?_; refine T.skip ?_; refine T.blkEnd ?_; refine sq ?_; refine zs3 ?_; refine sm ?_; (refine T.rangeStr Wanted.none rfl rfl ?_; intro b14); refine so ?_; refine T.block ?_
  refine T.loop (γ := Nat × Nat) (fun g => (unitsFrom s g.1 g.2).any badU = (units s).any badU ∧ s.size ≤ g.2 + g.1 ∧ g.2 ≤ s.size)
    (fun g => [(14, .pointer (some ⟨b14, 0, none⟩))])
    (fun g => [(b14, .stringIter s g.2)])
    (fun _ => H) (fun g => g.1) (s.size, 0) ⟨by simp [units], by simp, by simp⟩ zq8 zq4 rfl ?_
  rintro ⟨n, p⟩ ⟨h3, h4, h5⟩
  dsimp only at h3 h4 h5 ⊢
  refine zs3 ?_
  by_cases hp : p < s.size
  · obtain ⟨d1, d2, d3⟩ := decode_width s p hp
    obtain ⟨rr, wd, hd⟩ : ∃ r wd, Utf8.decode s p = (r, wd) := ⟨_, _, rfl⟩
    rw [hd] at d1 d2 d3
    dsimp only at d1 d2 d3
    obtain ⟨n, rfl⟩ : ∃ m, n = m + 1 := ⟨n - 1, by omega⟩
    rw [unitsFrom, if_pos hp, hd, List.any_cons] at h3
    dsimp only at h3
    refine T.nextStr zq22 rfl rfl (by assumption) (by assumption) zq14 ?_
    by_cases h6 : (rr : Int) ≤ 31
    · have hb : badU ⟨rr, p, wd⟩ = true := by unfold badU; simp [h6]
      rw [hb] at h3
      refine sv (PV.extract rfl rfl) ?_; refine so ?_; refine sq ?_; refine T.condT rfl rfl ?_; refine T.skip ?_; refine T.block ?_; refine zs3 ?_; refine sv (PV.extract rfl rfl) ?_; refine sa ?_; refine zs1 ?_; refine sm ?_; refine sv (PV.leq rfl rfl) ?_; refine sm ?_; refine T.setT (d := 20) rfl (by omega) ?_; refine sp ?_; refine sp ?_; refine sT ?_; refine so ?_; refine T.condT rfl rfl ?_; refine zs3 ?_; refine sa ?_; refine so ?_
      exact T.retF (Lv.fin (RV.tmp rfl rfl) (by rw [← h3]; rfl))
    · by_cases h7 : (rr : Int) = 127
      · have hb : badU ⟨rr, p, wd⟩ = true := by unfold badU; simp [h7]
        rw [hb] at h3
        refine sv (PV.extract rfl rfl) ?_; refine so ?_; refine sq ?_; refine T.condT rfl rfl ?_; refine T.skip ?_; refine T.block ?_; refine zs3 ?_; refine sv (PV.extract rfl rfl) ?_; refine sa ?_; refine zs1 ?_; refine sm ?_; refine sv (PV.leq rfl rfl) ?_; refine sm ?_; refine T.setF (d := 20) rfl (by omega) ?_; refine gm ?_; refine gv (PV.eql rfl rfl) ?_; refine sF ?_; refine so ?_; refine sC rfl (by omega) ?_; refine zs3 ?_; refine sa ?_; refine so ?_
        exact T.retF (Lv.fin (RV.tmp rfl rfl) (by rw [← h3]; rfl))
      · have hb : badU ⟨rr, p, wd⟩ = false := by unfold badU; simp [h6, h7]
        rw [hb, Bool.false_or] at h3
        refine sv (PV.extract rfl rfl) ?_; refine so ?_; refine sq ?_; refine T.condT rfl rfl ?_; refine T.skip ?_; refine T.block ?_; refine zs3 ?_; refine sv (PV.extract rfl rfl) ?_; refine sa ?_; refine zs1 ?_; refine sm ?_; refine sv (PV.leq rfl rfl) ?_; refine sm ?_; refine T.setF (d := 20) rfl (by omega) ?_; refine gm ?_; refine gv (PV.eql rfl rfl) ?_; refine sF ?_; refine so ?_; refine sd rfl (by omega) ?_; refine T.skip ?_; refine T.blkEnd ?_
        exact T.next (n, p + wd) ⟨h3, by dsimp only; omega, by dsimp only; omega⟩ (by dsimp only; omega) zq8 zq4 rfl
  · have h0 : unitsFrom s n p = [] := by cases n <;> simp [unitsFrom, hp]
    rw [h0] at h3
    refine T.nextStrEnd zq22 rfl rfl zq2 (by omega) ?_; refine sv (PV.extract rfl rfl) ?_; refine so ?_; refine sq ?_; refine T.condF rfl rfl ?_; refine T.exit rfl ?_; refine zs3 ?_; refine sa ?_; refine so ?_
    exact T.retF (Lv.fin (RV.tmp rfl rfl) (by rw [← h3]; rfl))

end Go.Proofs.YtpjdhokpfccahaaGreatDoor
