/- lines: codepoint: Fold, Reverse.
   features: values, sets of features. -/
import Derived.Test.YtbcadnjfegiakaaGreatDoorGA
namespace Go.Proofs.YtbcadnjfegiakaaGreatDoor
open Go.RowKit


def encU (u : U) : List Value := [.agg #[.int .i32 (u.r : Int), .int .i64 (u.at_ : Int), .int .i64 (u.sz : Int)]]

structure UnG where
  n : Nat
  p : Nat
  k : Nat
  r : Int
  at_ : Int
  sz : Int
  lc : List (Nat × Obj)
  H : Hp

set_option maxHeartbeats 1000000 in
theorem units_iter (s : ByteArray) (bs : Nat) (H : Hp) (fz : Nat × Nat) (hs : s.size ≤ 140737488355328) (hbs : H bs = some (.cells #[.string s] 9 fz)) :
    Iter Tryz.prog 307 [.pointer (some ⟨bs, 0, none⟩)] H (units s) encU := by
  refine Iter.of_T Tryz.func307 rfl rfl fun x0 L I Ix hY lc Hc h0 hle => ?_
  have hbs' := hle _ _ hbs
  refine zs3 ?_; refine sv (PV.build rfl zq12) ?_; refine sy fun b3 => ?_; refine yq9 ?_; refine sq ?_; refine zs3 ?_; refine sl ?_; (refine T.rangeStr Wanted.none rfl rfl ?_; intro b8); refine so ?_; refine T.block ?_
  refine T.loop (γ := UnG) (fun g => I g.k g.lc g.H ∧ Hc.le g.H ∧ s.size ≤ g.p + g.n ∧ g.p ≤ s.size ∧ -1 ≤ g.at_ ∧ g.at_ ≤ g.p ∧
      ((g.at_ = -1 ∧ g.k = 0 ∧ g.p = 0 ∧ units s = unitsFrom s g.n 0) ∨ ∃ r a : Nat, g.r = r ∧ g.at_ = a ∧ a ≤ g.p ∧ (units s).drop g.k = ⟨r, a, g.p - a⟩ :: unitsFrom s g.n g.p))
    (fun g => [(0, .func (.yield L) #[] #[]), (1, .pointer (some ⟨bs, 0, none⟩)), (3, .pointer (some ⟨b3, 0, none⟩)), (8, .pointer (some ⟨b8, 0, none⟩))])
    (fun g => (b8, .stringIter s g.p) :: (b3, .cells #[.int .i32 g.r, .int .i64 g.at_, .int .i64 g.sz] 325 (0, 0)) :: g.lc)
    (fun g => g.H) (fun g => g.n) ⟨s.size, 0, 0, 0, -1, 0, lc, Hc⟩ ⟨h0, Hp.le.refl _, by simp, by simp, by simp, by simp, .inl ⟨rfl, rfl, rfl, rfl⟩⟩ zq8 zq4 rfl ?_
  rintro ⟨n, p, k, r, at_, sz, lc, Hk⟩ ⟨hI, hHk, h2, h3, h4, h5, h6⟩
  dsimp only at hI hHk h2 h3 h4 h5 h6 ⊢
  have hbk := hHk _ _ hbs'
  refine zs3 ?_
  by_cases hp : p < s.size
  · obtain ⟨d1, d2, d3⟩ := decode_width s p hp
    obtain ⟨rr, wd, hd⟩ : ∃ r wd, Utf8.decode s p = (r, wd) := ⟨_, _, rfl⟩
    rw [hd] at d1 d2 d3
    dsimp only at d1 d2 d3
    obtain ⟨n, rfl⟩ : ∃ m, n = m + 1 := ⟨n - 1, by omega⟩
    refine T.nextStr zq22 rfl rfl (by assumption) (by assumption) zq14 ?_
    rcases h6 with ⟨rfl, rfl, rfl, h7⟩ | ⟨r, a, rfl, rfl, ha, h7⟩
    · refine sv (PV.extract rfl rfl) ?_; refine so ?_; refine sq ?_; refine T.condT rfl rfl ?_; refine T.skip ?_; refine T.block ?_; refine zs3 ?_; refine yq19 ?_; refine sa ?_; refine yq28 ?_; refine yq6 ?_; refine sv (PV.sub rfl rfl (by omega)) ?_; refine sf ?_; refine T.store1 Wanted.none rfl rfl rfl zq14 zq13 ?_; refine so ?_; refine sq ?_; refine zs3 ?_; refine yq6 ?_; refine sv (PV.geq rfl rfl) ?_; refine sm ?_; refine yq17 ?_; refine yq17 ?_; refine sF ?_; refine so ?_; refine yq7 ?_; refine sr ?_; refine sm ?_; refine sm ?_; refine sv (PV.build rfl zq12) ?_; refine yq9 ?_; refine T.blkEnd ?_
      refine T.next ⟨n, 0 + wd, 0, rr, 0, 0, lc, Hk⟩ ⟨hI, hHk, by dsimp only; omega, by dsimp only; omega, by dsimp only; omega, by dsimp only; omega, .inr ⟨rr, 0, rfl, rfl, by dsimp only; omega, ?_⟩⟩ (by dsimp only; omega) zq8 zq4 rfl
      rw [h7, unitsFrom, if_pos hp, hd]; simp
    · refine sv (PV.extract rfl rfl) ?_; refine so ?_; refine sq ?_; refine T.condT rfl rfl ?_; refine T.skip ?_; refine T.block ?_; refine zs3 ?_; refine yq19 ?_; refine sa ?_; refine yq28 ?_; refine yq6 ?_; refine sv (PV.sub rfl rfl (by omega)) ?_; refine sf ?_; refine T.store1 Wanted.none rfl rfl rfl zq14 zq13 ?_; refine so ?_; refine sq ?_; refine zs3 ?_; refine yq6 ?_; refine sv (PV.geq rfl rfl) ?_; refine sm ?_; refine gm ?_; refine gv (PV.loadAll rfl zq0 (by exact rfl)) ?_; refine T.setT (d := 21) rfl (by omega) ?_
      have hk : (units s)[k]? = some ⟨r, a, p - a⟩ := by have := congrArg (fun l => l[0]?) h7; simpa using this
      have hcast : ((p - a : Nat) : Int) = (p : Int) - a := by omega
      refine T.yield (li := [_, _]) hY (Wanted.guard rfl rfl rfl) rfl rfl hk (by show _ = some [Value.agg #[.int .i32 (r : Int), .int .i64 (a : Int), .int .i64 ((p - a : Nat) : Int)]]; rw [hcast]; rfl) hI ?_ ?_
      · intro lc' H' hle' hI'
        refine gv (PV.not rfl) ?_; refine sT ?_; refine so ?_; refine yq7 ?_; refine sr ?_; refine sm ?_; refine sm ?_; refine sv (PV.build rfl zq12) ?_; refine yq9 ?_; refine T.blkEnd ?_
        refine T.next ⟨n, p + wd, k + 1, rr, p, 0, lc', H'⟩ ⟨hI', hHk.trans hle', by dsimp only; omega, by dsimp only; omega, by dsimp only; omega, by dsimp only; omega, .inr ⟨rr, p, rfl, rfl, by dsimp only; omega, ?_⟩⟩ (by dsimp only; omega) zq8 zq4 rfl
        have h8 : (units s).drop (k + 1) = unitsFrom s (n + 1) p := by rw [← List.drop_drop, h7]; rfl
        dsimp only
        rw [h8, unitsFrom, if_pos hp, hd, Nat.add_sub_cancel_left]
      · intro lc' H' hle' hI'
        refine gv (PV.not rfl) ?_; refine sT ?_; refine so ?_; refine T.condT rfl rfl ?_
        exact T.retI rfl lc' zq4 (hHk.trans hle') (.inr hI')
  · refine T.nextStrEnd zq22 rfl rfl zq2 (by omega) ?_
    rcases h6 with ⟨rfl, rfl, rfl, h7⟩ | ⟨r, a, rfl, rfl, ha, h7⟩
    · refine sv (PV.extract rfl rfl) ?_; refine so ?_; refine sq ?_; refine yq22 ?_; refine zs3 ?_; refine sl ?_; refine sv (PV.lenStr rfl) ?_; refine yq6 ?_; refine sv (PV.sub rfl rfl (by omega)) ?_; refine sf ?_; refine T.store1 Wanted.none rfl rfl rfl zq14 zq13 ?_; refine zs1 ?_; refine yq6 ?_; refine sv (PV.geq rfl rfl) ?_; refine so ?_; refine yq7 ?_
      have h0 : units s = [] := by rw [h7]; cases n <;> simp [unitsFrom, hp]
      refine T.fallI rfl lc zq4 hHk (.inl ?_)
      rw [h0]; exact hI
    · refine sv (PV.extract rfl rfl) ?_; refine so ?_; refine sq ?_; refine yq22 ?_; refine zs3 ?_; refine sl ?_; refine sv (PV.lenStr rfl) ?_; refine yq6 ?_; refine sv (PV.sub rfl rfl (by omega)) ?_; refine sf ?_; refine T.store1 Wanted.none rfl rfl rfl zq14 zq13 ?_; refine zs1 ?_; refine yq6 ?_; refine sv (PV.geq rfl rfl) ?_; refine so ?_; refine T.condT rfl rfl ?_; refine sr ?_; refine sm ?_; refine sv (PV.loadAll rfl zq0 (by exact rfl)) ?_
      have hp0 : p = s.size := by omega
      have h8 : unitsFrom s n p = [] := by cases n <;> simp [unitsFrom, hp]
      rw [h8] at h7
      have hk : (units s)[k]? = some ⟨r, a, p - a⟩ := by have := congrArg (fun l => l[0]?) h7; simpa using this
      have hlen : (units s).length = k + 1 := by
        have := congrArg List.length h7
        simp at this
        have h9 := (List.getElem?_eq_some_iff.1 hk).1
        omega
      have hcast : ((p - a : Nat) : Int) = (s.size : Int) - a := by omega
      refine T.yield (li := [_, _]) hY Wanted.none rfl rfl hk (by show _ = some [Value.agg #[.int .i32 (r : Int), .int .i64 (a : Int), .int .i64 ((p - a : Nat) : Int)]]; rw [hcast]; rfl) hI ?_ ?_
      · intro lc' H' hle' hI'
        refine so ?_
        exact T.fallI rfl lc' zq4 (hHk.trans hle') (.inl (by rw [hlen]; exact hI'))
      · intro lc' H' hle' hI'
        refine so ?_
        exact T.fallI rfl lc' zq4 (hHk.trans hle') (.inr hI')

theorem units_fn (s : ByteArray) (H : Hp) : Fn Tryz.prog 285 #[.string s] H (fun v H' => ∃ bs, v = .func (.func 307) #[] #[.pointer (some ⟨bs, 0, none⟩)] ∧ H' bs = some (.cells #[.string s] 9 (0, 0))) := by
  refine Fn.of_T (vs := [.string s]) Tryz.func285 rfl rfl fun w => ?_; refine zs3 ?_; (refine T.box Wanted.none rfl rfl zq15 ?_; intro b1); refine yq14 ?_; refine sv (PV.makeFunc rfl) ?_; refine yq0 ?_
  refine T.retF (Lv.freeze (Lv.fin (RV.tmp rfl rfl) ⟨_, rfl, Hp.put_same⟩))

theorem Src.bytes {P : Program} {l : List (Nat × Obj)} {H : Hp} {bs : List UInt8} : Src P l H 1 (.string ⟨bs.toArray⟩) bs.length (bytesV bs) := by
  have := Src.str (P := P) (l := l) (H := H) (s := ⟨bs.toArray⟩)
  simpa [ByteArray.size] using this
end Go.Proofs.YtbcadnjfegiakaaGreatDoor
namespace Go.Proofs.YtbcadnjfegiakaaGreatDoor
open Go.RowKit


theorem unitValid_fn (u : U) (H : Hp) : Fn Tryz.prog 286 #[.agg #[.int .i32 (u.r : Int), .int .i64 (u.at_ : Int), .int .i64 (u.sz : Int)]] H (fun v _ => v = .bool (okU u)) := by
  refine Fn.of_T (vs := [.agg #[.int .i32 (u.r : Int), .int .i64 (u.at_ : Int), .int .i64 (u.sz : Int)]]) Tryz.func286 rfl rfl fun w => ?_
  by_cases h : u.r = 65533
  · have h1 : decide ((u.r : Int) ≠ 65533) = false := by simp [h]
    refine zs3 ?_; (refine T.box Wanted.none rfl rfl zq15 ?_; intro b1); refine yq14 ?_; refine yq6 ?_; refine sv (PV.neq rfl rfl) ?_; refine sm ?_; refine T.pv (PV.fieldAddr rfl) (Wanted.guard rfl rfl (by assumption)) rfl rfl ?_; refine T.pv (PV.load1 rfl zq0 rfl) (Wanted.guard rfl rfl (by assumption)) rfl rfl ?_; refine T.pv (PV.eql rfl rfl) (Wanted.guard rfl rfl (by assumption)) rfl rfl ?_; refine sv (PV.pickF rfl (by assumption) rfl) ?_; refine yq0 ?_
    first | refine T.fallF (Lv.fin zq6 ?_) | refine T.retF (Lv.fin zq6 ?_)
    have : ((u.sz : Int) = 3) = (u.sz = 3) := by rw [eq_iff_iff]; omega
    simp [okU, h, this]
  · have h1 : decide ((u.r : Int) ≠ 65533) = true := by simp; omega
    refine zs3 ?_; (refine T.box Wanted.none rfl rfl zq15 ?_; intro b1); refine yq14 ?_; refine yq6 ?_; refine sv (PV.neq rfl rfl) ?_; refine sm ?_; refine T.pass (Unwanted.guard rfl rfl (by assumption)) rfl rfl ?_; refine T.pass (Unwanted.guard rfl rfl (by assumption)) rfl rfl ?_; refine T.pass (Unwanted.guard rfl rfl (by assumption)) rfl rfl ?_; refine sv (PV.pickT rfl (by assumption) rfl) ?_; refine yq0 ?_
    first | refine T.fallF (Lv.fin zq6 ?_) | refine T.retF (Lv.fin zq6 ?_)
    simp [okU, h]
set_option maxHeartbeats 1000000 in
theorem validP_fn (s : ByteArray) (H : Hp) (hs : s.size ≤ 20000) : Fn Tryz.prog 252 #[.string s] H (fun v _ => v = .bool (validS s)) := by
  refine Fn.of_T (vs := [.string s]) Tryz.func252 rfl rfl fun w => ?_; refine zs3 ?_; refine sy fun b2 => ?_; refine so ?_; refine sq ?_; refine yq4 ?_; refine T.call Wanted.none rfl rfl (units_fn s H) ?_
  rintro _ H1 hH1 ⟨bs, rfl, hb⟩
  refine so ?_; refine T.block ?_
  refine T.rangeFunc rfl rfl (units_iter s bs H1 _ (by omega) hb) (fun _ => rfl) rfl (by decide)
    (fun n lk _ => lk = [(b2, .cells #[.bool false] 4 (0, 0))] ∧ ((units s).take n).all okU = true)
    (fun c lk _ => c = .ret ∧ lk = [(b2, .cells #[.bool false] 4 (0, 0))] ∧ validS s = false)
    ⟨rfl, rfl⟩ ?_ ?_ ?_
  · rintro n x lk Hk hx ⟨rfl, hok⟩ hle L rec lo hrec
    refine sr ?_; refine sy fun b3 => ?_; refine yq9 ?_; refine T.begin (lk := [_, _]) hrec ?_; refine T.block ?_; refine zs3 ?_; refine sv (PV.loadAll rfl zq0 (by exact rfl)) ?_; refine T.callV Wanted.none rfl rfl (unitValid_fn x Hk) ?_; refine sv (PV.not rfl) ?_; refine so ?_
    refine T.cond rfl (fun hc => ?_) (fun hc => ?_)
    · refine zs3 ?_; refine T.store1 Wanted.none rfl rfl rfl zq14 zq13 ?_; refine so ?_
      refine T.roundRet [_] zq4 (Hp.le.refl _) ⟨rfl, rfl, ?_⟩
      rw [validS, Bool.eq_false_iff]
      intro hall
      rw [List.all_eq_true.1 hall x (List.mem_of_getElem? hx)] at hc
      simp at hc
    · refine T.skip ?_; refine T.blkEnd ?_
      refine T.roundEnd [_] zq4 (Hp.le.refl _) ⟨rfl, ?_⟩
      rw [List.take_add_one, hx, List.all_append, hok]
      simpa using hc
  · rintro r lk Hk hle ⟨rfl, hok⟩
    refine T.blkEnd ?_; refine zs3 ?_; refine T.store1 Wanted.none rfl rfl rfl zq14 zq13 ?_; refine so ?_
    refine T.retF (Lv.mark Upd.head (Lv.fin zq6 ?_))
    rw [List.take_length] at hok
    rw [validS, hok]
  · rintro c r lk Hk hle ⟨rfl, rfl, hok⟩
    refine T.retF (Lv.mark Upd.head (Lv.fin zq6 ?_))
    rw [hok]
/-! ### values -/
def badU (u : U) : Bool := decide ((u.r : Int) ≤ 31) || decide ((u.r : Int) = 127)
/-- the error of a value -/
def vvE (s : ByteArray) : Int := if 120 < s.size then 2 else if validS s = false then 7 else if (units s).any badU then 14 else 0
theorem vvE_size {s : ByteArray} (h : vvE s = 0) : s.size ≤ 120 := by
  unfold vvE at h
  split at h
  · cases h
  · omega
set_option maxHeartbeats 1000000 in
theorem vv_fn (s : ByteArray) (H : Hp) : Fn Tryz.prog 193 #[.string s] H (fun u _ => u = .int .i64 (vvE s)) := by
  refine Fn.of_T (vs := [.string s]) Tryz.func193 rfl rfl fun w => ?_
  unfold vvE
  by_cases h1 : 120 < s.size
  · rw [if_pos h1]
    refine zs3 ?_; refine yq11 ?_; refine T.block ?_; refine yq4 ?_; refine sv (PV.lenStr rfl) ?_; refine sv (PV.gtr rfl rfl) ?_; refine yq0 ?_; refine sC rfl (by omega) ?_; refine zs3 ?_; refine yq0 ?_
    exact T.retF (Lv.fin (RV.tmp rfl rfl) rfl)
  rw [if_neg h1]
  have hv := validP_fn s H (by omega)
  cases h2 : validS s
  · rw [h2] at hv
    rw [if_pos rfl]
    refine zs3 ?_; refine yq11 ?_; refine T.block ?_; refine yq4 ?_; refine sv (PV.lenStr rfl) ?_; refine sv (PV.gtr rfl rfl) ?_; refine yq0 ?_; refine sd rfl (by omega) ?_; refine yq4 ?_; refine T.callV Wanted.none rfl rfl (hv) ?_; refine sv (PV.not rfl) ?_; refine yq0 ?_; refine T.condT rfl rfl ?_; refine zs3 ?_; refine yq0 ?_
    exact T.retF (Lv.fin (RV.tmp rfl rfl) rfl)
  rw [h2] at hv
  rw [if_neg (by decide)]
  refine zs3 ?_; refine yq11 ?_; refine T.block ?_; refine yq4 ?_; refine sv (PV.lenStr rfl) ?_; refine sv (PV.gtr rfl rfl) ?_; refine yq0 ?_; refine sd rfl (by omega) ?_; refine yq4 ?_; refine T.callV Wanted.none rfl rfl (hv) ?_; refine sv (PV.not rfl) ?_; refine yq0 ?_; refine yq7 ?_; refine T.blkEnd ?_; refine sq ?_; refine yq4 ?_; (refine T.rangeStr Wanted.none rfl rfl ?_; intro b14); refine so ?_; refine T.block ?_
  refine T.loop (γ := Nat × Nat) (fun g => (unitsFrom s g.1 g.2).any badU = (units s).any badU ∧ s.size ≤ g.2 + g.1 ∧ g.2 ≤ s.size)
    (fun g => [(14, .pointer (some ⟨b14, 0, none⟩))])
    (fun g => [(b14, .stringIter s g.2)])
    (fun _ => H) (fun g => g.1) (s.size, 0) ⟨by simp [units], by simp, by simp⟩ zq8 zq4 rfl ?_
  rintro ⟨n, p⟩ ⟨h3, h4, h5⟩
  dsimp only at h3 h4 h5 ⊢
  refine zs3 ?_
  by_cases hp : p < s.size
  · obtain ⟨d1, d2, d3⟩ := decode_width s p hp
    obtain ⟨rr, wd, hd⟩ : ∃ r wd, Utf8.decode s p = (r, wd) := ⟨_, _, rfl⟩
    rw [hd] at d1 d2 d3
    dsimp only at d1 d2 d3
    obtain ⟨n, rfl⟩ : ∃ m, n = m + 1 := ⟨n - 1, by omega⟩
    rw [unitsFrom, if_pos hp, hd, List.any_cons] at h3
    dsimp only at h3
    refine T.nextStr zq22 rfl rfl (by assumption) (by assumption) zq14 ?_
    by_cases h6 : (rr : Int) ≤ 31
    · have hb : badU ⟨rr, p, wd⟩ = true := by unfold badU; simp [h6]
      rw [hb] at h3
      refine sv (PV.extract rfl rfl) ?_; refine so ?_; refine sq ?_; refine T.condT rfl rfl ?_; refine T.skip ?_; refine T.block ?_; refine zs3 ?_; refine sv (PV.extract rfl rfl) ?_; refine yq28 ?_; refine sv (PV.leq rfl rfl) ?_; refine sm ?_; refine T.setT (d := 20) rfl (by omega) ?_; refine yq17 ?_; refine sT ?_; refine so ?_; refine T.condT rfl rfl ?_; refine zs3 ?_; refine yq0 ?_
      exact T.retF (Lv.fin (RV.tmp rfl rfl) (by rw [← h3]; rfl))
    · by_cases h7 : (rr : Int) = 127
      · have hb : badU ⟨rr, p, wd⟩ = true := by unfold badU; simp [h7]
        rw [hb] at h3
        refine sv (PV.extract rfl rfl) ?_; refine so ?_; refine sq ?_; refine T.condT rfl rfl ?_; refine T.skip ?_; refine T.block ?_; refine zs3 ?_; refine sv (PV.extract rfl rfl) ?_; refine yq28 ?_; refine sv (PV.leq rfl rfl) ?_; refine sm ?_; refine T.setF (d := 20) rfl (by omega) ?_; refine gm ?_; refine gv (PV.eql rfl rfl) ?_; refine sF ?_; refine so ?_; refine sC rfl (by omega) ?_; refine zs3 ?_; refine yq0 ?_
        exact T.retF (Lv.fin (RV.tmp rfl rfl) (by rw [← h3]; rfl))
      · have hb : badU ⟨rr, p, wd⟩ = false := by unfold badU; simp [h6, h7]
        rw [hb, Bool.false_or] at h3
        refine sv (PV.extract rfl rfl) ?_; refine so ?_; refine sq ?_; refine T.condT rfl rfl ?_; refine T.skip ?_; refine T.block ?_; refine zs3 ?_; refine sv (PV.extract rfl rfl) ?_; refine yq28 ?_; refine sv (PV.leq rfl rfl) ?_; refine sm ?_; refine T.setF (d := 20) rfl (by omega) ?_; refine gm ?_; refine gv (PV.eql rfl rfl) ?_; refine sF ?_; refine so ?_; refine sd rfl (by omega) ?_; refine T.skip ?_; refine T.blkEnd ?_
        exact T.next (n, p + wd) ⟨h3, by dsimp only; omega, by dsimp only; omega⟩ (by dsimp only; omega) zq8 zq4 rfl
  · have h0 : unitsFrom s n p = [] := by cases n <;> simp [unitsFrom, hp]
    rw [h0] at h3
    refine T.nextStrEnd zq22 rfl rfl zq2 (by omega) ?_; refine sv (PV.extract rfl rfl) ?_; refine so ?_; refine sq ?_; refine yq22 ?_; refine zs3 ?_; refine yq0 ?_
    exact T.retF (Lv.fin (RV.tmp rfl rfl) (by rw [← h3]; rfl))

end Go.Proofs.YtbcadnjfegiakaaGreatDoor
