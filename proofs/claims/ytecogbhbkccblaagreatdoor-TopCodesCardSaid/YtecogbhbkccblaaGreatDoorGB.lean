/- lines: codepoint: Fold, Reverse.
   features: values, sets of features. -/
import Derived.Test.YtecogbhbkccblaaGreatDoorGA
set_option maxRecDepth 4000
set_option maxHeartbeats 40000000
set_option linter.all false
namespace Go.Proofs.YtecogbhbkccblaaGreatDoor
open Go.RowKit


def encU (u : U) : List Value := [.agg #[.int .i32 (u.r : Int), .int .i64 (u.at_ : Int), .int .i64 (u.sz : Int)]]

structure UnG where
  n : Nat
  p : Nat
  k : Nat
  r : Int
  at_ : Int
  sz : Int
  lc : List (Nat × Obj)
  H : Hp

theorem units_iter (s : ByteArray) (bs : Nat) (H : Hp) (fz : Nat × Nat) (hs : s.size ≤ 140737488355328) (hbs : H bs = some (.cells #[.string s] 9 fz)) :
    Iter Tryz.prog 99 [.pointer (some ⟨bs, 0, none⟩)] H (units s) encU := by
  refine Iter.of_T Tryz.func99 rfl rfl fun x0 L I Ix hY lc Hc h0 hle => ?_
  have hbs' := hle _ _ hbs
  refine zs3 ?_; refine yq39 ?_; refine sy fun b3 => ?_; refine yq2 ?_; refine J5 ?_; (refine T.rangeStr Wanted.none rfl rfl ?_; intro b8); refine J2 ?_
  refine T.loop (γ := UnG) (fun g => I g.k g.lc g.H ∧ Hc.le g.H ∧ s.size ≤ g.p + g.n ∧ g.p ≤ s.size ∧ -1 ≤ g.at_ ∧ g.at_ ≤ g.p ∧
      ((g.at_ = -1 ∧ g.k = 0 ∧ g.p = 0 ∧ units s = unitsFrom s g.n 0) ∨ ∃ r a : Nat, g.r = r ∧ g.at_ = a ∧ a ≤ g.p ∧ (units s).drop g.k = ⟨r, a, g.p - a⟩ :: unitsFrom s g.n g.p))
    (fun g => [(0, .func (.yield L) #[] #[]), (1, .pointer (some ⟨bs, 0, none⟩)), (3, .pointer (some ⟨b3, 0, none⟩)), (8, .pointer (some ⟨b8, 0, none⟩))])
    (fun g => (b8, .stringIter s g.p) :: (b3, .cells #[.int .i32 g.r, .int .i64 g.at_, .int .i64 g.sz] 119 (0, 0)) :: g.lc)
    (fun g => g.H) (fun g => g.n) ⟨s.size, 0, 0, 0, -1, 0, lc, Hc⟩ ⟨h0, Hp.le.refl _, by simp, by simp, by simp, by simp, .inl ⟨rfl, rfl, rfl, rfl⟩⟩ zq8 zq4 rfl ?_
  rintro ⟨n, p, k, r, at_, sz, lc, Hk⟩ ⟨hI, hHk, h2, h3, h4, h5, h6⟩
  dsimp only at hI hHk h2 h3 h4 h5 h6 ⊢
  have hbk := hHk _ _ hbs'
  refine zs3 ?_
  by_cases hp : p < s.size
  · obtain ⟨d1, d2, d3⟩ := decode_width s p hp
    obtain ⟨rr, wd, hd⟩ : ∃ r wd, Utf8.decode s p = (r, wd) := ⟨_, _, rfl⟩
    rw [hd] at d1 d2 d3
    dsimp only at d1 d2 d3
    obtain ⟨n, rfl⟩ : ∃ m, n = m + 1 := ⟨n - 1, by omega⟩
    refine T.nextStr zq22 rfl rfl zA zA zq14 ?_
    rcases h6 with ⟨rfl, rfl, rfl, h7⟩ | ⟨r, a, rfl, rfl, ha, h7⟩
    · refine J20 ?_; refine yq1 ?_; refine J19 ?_; refine yq39 ?_; refine yq2 ?_; refine J2 ?_
      refine T.next ⟨n, 0 + wd, 0, rr, 0, 0, lc, Hk⟩ ⟨hI, hHk, by dsimp only; omega, by dsimp only; omega, by dsimp only; omega, by dsimp only; omega, .inr ⟨rr, 0, rfl, rfl, by dsimp only; omega, ?_⟩⟩ zE zq8 zq4 rfl
      rw [h7, unitsFrom, if_pos hp, hd]; simp
    · refine J20 ?_; refine yq1 ?_; refine J10 ?_; refine T.setT (d := 21) rfl zO ?_
      have hk : (units s)[k]? = some ⟨r, a, p - a⟩ := by have := congrArg (fun l => l[0]?) h7; simpa using this
      have hcast : ((p - a : Nat) : Int) = (p : Int) - a := by omega
      refine T.yield (li := [_, _]) hY (Wanted.guard rfl rfl rfl) rfl rfl hk (by show _ = some [Value.agg #[.int .i32 (r : Int), .int .i64 (a : Int), .int .i64 ((p - a : Nat) : Int)]]; rw [hcast]; rfl) hI ?_ ?_
      · intro lc' H' hle' hI'
        refine J8 ?_; refine yq39 ?_; refine yq2 ?_; refine J2 ?_
        refine T.next ⟨n, p + wd, k + 1, rr, p, 0, lc', H'⟩ ⟨hI', hHk.trans hle', by dsimp only; omega, by dsimp only; omega, by dsimp only; omega, by dsimp only; omega, .inr ⟨rr, p, rfl, rfl, by dsimp only; omega, ?_⟩⟩ zE zq8 zq4 rfl
        have h8 : (units s).drop (k + 1) = unitsFrom s (n + 1) p := by rw [← List.drop_drop, h7]; rfl
        dsimp only
        rw [h8, unitsFrom, if_pos hp, hd, Nat.add_sub_cancel_left]
      · intro lc' H' hle' hI'
        refine J4 ?_
        exact T.retI rfl lc' zq4 (hHk.trans hle') (.inr hI')
  · refine T.nextStrEnd zq22 rfl rfl zq2 zO ?_
    rcases h6 with ⟨rfl, rfl, rfl, h7⟩ | ⟨r, a, rfl, rfl, ha, h7⟩
    · refine J13 ?_; refine yq1 ?_; refine J9 ?_
      have h0 : units s = [] := by rw [h7]; cases n <;> simp [unitsFrom, hp]
      refine T.fallI rfl lc zq4 hHk (.inl ?_)
      rw [h0]; exact hI
    · refine J13 ?_; refine yq1 ?_; refine J11 ?_
      have hp0 : p = s.size := by omega
      have h8 : unitsFrom s n p = [] := by cases n <;> simp [unitsFrom, hp]
      rw [h8] at h7
      have hk : (units s)[k]? = some ⟨r, a, p - a⟩ := by have := congrArg (fun l => l[0]?) h7; simpa using this
      have hlen : (units s).length = k + 1 := by
        have := congrArg List.length h7
        simp at this
        have h9 := (List.getElem?_eq_some_iff.1 hk).1
        omega
      have hcast : ((p - a : Nat) : Int) = (s.size : Int) - a := by omega
      refine T.yield (li := [_, _]) hY Wanted.none rfl rfl hk (by show _ = some [Value.agg #[.int .i32 (r : Int), .int .i64 (a : Int), .int .i64 ((p - a : Nat) : Int)]]; rw [hcast]; rfl) hI ?_ ?_
      · intro lc' H' hle' hI'
        refine so ?_
        exact T.fallI rfl lc' zq4 (hHk.trans hle') (.inl (by rw [hlen]; exact hI'))
      · intro lc' H' hle' hI'
        refine so ?_
        exact T.fallI rfl lc' zq4 (hHk.trans hle') (.inr hI')

theorem units_fn (s : ByteArray) (H : Hp) : Fn Tryz.prog 54 #[.string s] H (fun v H' => ∃ bs, v = .func (.func 99) #[] #[.pointer (some ⟨bs, 0, none⟩)] ∧ H' bs = some (.cells #[.string s] 9 (0, 0))) := by
  refine Fn.of_T (vs := [.string s]) Tryz.func54 rfl rfl fun w => ?_; refine zs3 ?_; (refine T.box Wanted.none rfl rfl zq15 ?_; intro b1); refine J4 ?_; refine sv (PV.makeFunc rfl) ?_; refine J2 ?_
  refine T.retF (Lv.freeze (Lv.fin (RV.tmp rfl rfl) ⟨_, rfl, Hp.put_same⟩))

def cellsU (u : U) : List Value := [.int .i32 (u.r : Int), .int .i64 (u.at_ : Int), .int .i64 (u.sz : Int)]
theorem one_cellsU (us : List U) : ∀ v ∈ us.flatMap cellsU, v.oneCell' = true := by
  intro v hv
  obtain ⟨u, _, hu⟩ := List.mem_flatMap.1 hv
  simp [cellsU] at hu
  rcases hu with rfl | rfl | rfl <;> rfl
theorem list_fn (s : ByteArray) (H : Hp) (hs : s.size ≤ 20000) : Fn Tryz.prog 110 #[.string s] H (fun v H' => SlR H' 3 v (units s).length ((units s).flatMap cellsU)) := by
  refine Fn.of_T (vs := [.string s]) Tryz.func110 rfl rfl fun w => ?_; refine J6 ?_; refine sy fun b3 => ?_; refine J5 ?_; refine T.call Wanted.none rfl rfl (units_fn s H) ?_
  rintro _ H1 hH1 ⟨bs, rfl, hb⟩
  refine J2 ?_
  have hul := units_len s
  refine T.rangeFunc rfl rfl (units_iter s bs H1 _ zO hb) (fun _ => rfl) rfl zD
    (fun n lk _ => ∃ v lv, lk = (b3, .cells #[v] 183 (0, 0)) :: lv ∧ Vec 119 3 v lv n (((units s).take n).flatMap cellsU))
    (fun c lk _ => False)
    ⟨_, [], rfl, Vec.nil _ _⟩ ?_ ?_ ?_
  · rintro n x lk Hk hx ⟨v, lv, rfl, hv⟩ hle L rec lo hrec
    have hn := (List.getElem?_eq_some_iff.1 hx).1
    obtain ⟨ad, cap, rfl⟩ := hv.val
    refine sr ?_; refine sy fun b4 => ?_; refine yq2 ?_; refine so ?_; refine T.begin (lk := _ :: _ :: lv) hrec ?_; refine J4 ?_; (refine T.buildSlice Wanted.none rfl rfl zq11 zX zX ?_; intro b10); refine T.append [_, _, _] Wanted.none rfl rfl rfl hv (Src.cells (m := 1) (ys := cellsU x) (.own zq2) rfl rfl) (fun v hv => one_cellsU [x] v (by simpa using hv)) zO ?_
    intro v' lv' hv' hnil
    obtain ⟨ad', cap', rfl⟩ := hv'.val
    refine yq1 ?_; refine J2 ?_
    refine T.roundEnd (_ :: lv') zq4 (Hp.le.refl _) ⟨_, lv', rfl, ?_⟩
    rw [List.take_add_one, hx]
    simpa using hv'
  · rintro r lk Hk hle ⟨v, lv, rfl, hv⟩
    obtain ⟨ad, cap, rfl⟩ := hv.val
    refine J6 ?_
    rw [List.take_length] at hv
    exact T.retF (Lv.mark Upd.head (Vec.freezeLv (l' := []) hv (by rw [List.append_nil]; exact zq4) fun H' _ hsl => Lv.fin (RV.tmp rfl rfl) hsl))
  · rintro c r lk Hk hle h; exact h.elim

theorem one_bytesV (l : List UInt8) : ∀ v ∈ bytesV l, v.oneCell' = true := by
  intro v hv
  obtain ⟨b, _, rfl⟩ := List.mem_map.1 hv
  rfl
theorem bytesV_append (a b : List UInt8) : bytesV (a ++ b) = bytesV a ++ bytesV b := by simp [bytesV]
theorem Src.bytes {P : Program} {l : List (Nat × Obj)} {H : Hp} {bs : List UInt8} : Src P l H 1 (.string ⟨bs.toArray⟩) bs.length (bytesV bs) := by
  have := Src.str (P := P) (l := l) (H := H) (s := ⟨bs.toArray⟩)
  simpa [ByteArray.size] using this
theorem cellsU_len (u : U) : (cellsU u).length = 3 := rfl
/-- the last k units' bytes, from behind -/
theorem rev_drop {s : ByteArray} {i : Nat} {x : U} (hx : (units s)[i]? = some x) : ((units s).drop i).reverse.flatMap (piece s) = ((units s).drop (i + 1)).reverse.flatMap (piece s) ++ piece s x := by
  have hi := (List.getElem?_eq_some_iff.1 hx).1
  rw [List.drop_eq_getElem_cons hi, (List.getElem?_eq_some_iff.1 hx).2]
  simp
theorem rev_len (s : ByteArray) (n : Nat) (hs : s.size ≤ 20000) : (((units s).drop n).reverse.flatMap (piece s)).length ≤ 4 * 20000 := by
  have hul := units_len s
  have := flat_le (f := piece s) (m := 4) ((units s).drop n).reverse (fun y hy => by
    have hy := List.mem_of_mem_drop (List.mem_reverse.1 hy)
    have := piece_le s y; have := (units_mem hy).2.2.1; omega)
  have h2 : ((units s).drop n).reverse.length ≤ 20000 := by rw [List.length_reverse, List.length_drop]; omega
  omega
structure RvG where
  i : Nat
  v : Value
  lv : List (Nat × Obj)
theorem reverse_fn (s : ByteArray) (H : Hp) (hs : s.size ≤ 20000) : Fn Tryz.prog 58 #[.string s] H (fun v _ => v = .string ⟨(revL s).toArray⟩) := by
  refine Fn.of_T (vs := [.string s]) Tryz.func58 rfl rfl fun w => ?_; refine J7 ?_; refine T.call Wanted.none rfl rfl (list_fn s H hs) ?_
  intro vl H1 hH1 hsl
  have hul := units_len s
  obtain ⟨adl, capl, rfl⟩ := hsl.len
  refine J6 ?_; refine T.makeSlice0 Wanted.none rfl rfl rfl zO ?_
  intro v0 lv0 hv0 hnn
  refine J11 ?_
  refine T.loop (γ := RvG) (fun g => g.i ≤ (units s).length ∧ Vec 5 1 g.v g.lv (((units s).drop g.i).reverse.flatMap (piece s)).length (bytesV (((units s).drop g.i).reverse.flatMap (piece s))))
    (fun g => [(0, .string s), (3, .slice adl (units s).length capl), (4, g.v), (5, .int .i64 ((g.i : Int) - 1)), (2, .string ⟨#[]⟩)])
    (fun g => g.lv) (fun _ => H1) (fun g => g.i) ⟨(units s).length, v0, lv0⟩ ⟨by simp, by simpa [bytesV] using hv0⟩ zq8 zq4 rfl ?_
  rintro ⟨i, v, lv⟩ ⟨hi, hv⟩
  dsimp only at hi hv ⊢
  obtain ⟨ad, cap, rfl⟩ := hv.val
  refine J6 ?_
  refine T.condD rfl (fun hc => ?_) (fun hc => ?_)
  · obtain ⟨i, rfl⟩ : ∃ m, i = m + 1 := ⟨i - 1, by omega⟩
    have hx := List.getElem?_eq_getElem (l := units s) (i := i) zO
    obtain ⟨x, hxe⟩ : ∃ x, (units s)[i] = x := ⟨_, rfl⟩
    rw [hxe] at hx
    obtain ⟨m1, m2, m3, m4, m5⟩ := units_mem (List.mem_of_getElem? hx)
    have hrl := rev_len s (i + 1) hs
    have hpl := piece_le s x
    obtain ⟨b, off, cap', hve, hsub⟩ := hsl.elem (i := i) zO (flat_elem cellsU_len (units s) i x hx)
    injection hve with e1 e2 e3
    subst e1 e3
    have hcast : ((i + 1 : Nat) : Int) - 1 = (i : Int) := by omega
    rw [hcast]
    refine J3 ?_; refine T.regionT 19 zK ?_; refine I6 ?_; refine yq23 ?_; refine I4 ?_; refine yq23 ?_; refine I4 ?_; refine yq23 ?_; refine TQ.pv (PV.add rfl rfl zO) Wanted.none rfl rfl ?_; refine TQ.pv (PV.sliceStr rfl rfl rfl zO) Wanted.none rfl rfl ?_; refine TQ.nil ?_
    rw [extract_piece]
    refine T.appendE [] Wanted.none rfl rfl rfl hv Src.bytes (one_bytesV _) zO ?_
    intro v' lv' hv' hnil
    obtain ⟨ad', cap', rfl⟩ := hv'.val
    refine J8 ?_
    refine T.next ⟨i, _, lv'⟩ ⟨by dsimp only; omega, ?_⟩ zE zq8 zq4 rfl
    dsimp only
    rw [rev_drop hx, List.length_append, bytesV_append]
    exact hv'
  · obtain rfl : i = 0 := by omega
    rw [List.drop_zero] at hv
    refine J4 ?_; refine sv (PV.bytesStr rfl (Vec.srcE [] hv) ⟨_, _, rfl⟩) ?_; refine J2 ?_
    exact T.retF (Lv.fin (RV.tmp rfl rfl) rfl)


end Go.Proofs.YtecogbhbkccblaaGreatDoor
namespace Go.Proofs.YtecogbhbkccblaaGreatDoor
open Go.RowKit


theorem unitValid_fn (u : U) (H : Hp) : Fn Tryz.prog 55 #[.agg #[.int .i32 (u.r : Int), .int .i64 (u.at_ : Int), .int .i64 (u.sz : Int)]] H (fun v _ => v = .bool (okU u)) := by
  refine Fn.of_T (vs := [.agg #[.int .i32 (u.r : Int), .int .i64 (u.at_ : Int), .int .i64 (u.sz : Int)]]) Tryz.func55 rfl rfl fun w => ?_
  by_cases h : u.r = 65533
  · have h1 : decide ((u.r : Int) ≠ 65533) = false := by simp [h]
    refine zs3 ?_; (refine T.box Wanted.none rfl rfl zq15 ?_; intro b1); refine J8 ?_; refine T.pv (PV.fieldAddr rfl) (Wanted.guard rfl rfl zA) rfl rfl ?_; refine T.pv (PV.load1 rfl zq0 rfl) (Wanted.guard rfl rfl zA) rfl rfl ?_; refine T.pv (PV.eql rfl rfl) (Wanted.guard rfl rfl zA) rfl rfl ?_; refine yq90 ?_; refine J2 ?_
    first | refine T.fallF (Lv.fin zq6 ?_) | refine T.retF (Lv.fin zq6 ?_)
    have : ((u.sz : Int) = 3) = (u.sz = 3) := by rw [eq_iff_iff]; omega
    simp [okU, h, this]
  · have h1 : decide ((u.r : Int) ≠ 65533) = true := by simp; omega
    refine zs3 ?_; (refine T.box Wanted.none rfl rfl zq15 ?_; intro b1); refine J8 ?_; refine yq5 ?_; refine T.pass (Unwanted.guard rfl rfl zA) rfl rfl ?_; refine sv (PV.pickT rfl zA rfl) ?_; refine J2 ?_
    first | refine T.fallF (Lv.fin zq6 ?_) | refine T.retF (Lv.fin zq6 ?_)
    simp [okU, h]
theorem validP_fn (s : ByteArray) (H : Hp) (hs : s.size ≤ 20000) : Fn Tryz.prog 25 #[.string s] H (fun v _ => v = .bool (validS s)) := by
  refine Fn.of_T (vs := [.string s]) Tryz.func25 rfl rfl fun w => ?_; refine zs3 ?_; refine sy fun b2 => ?_; refine J5 ?_; refine T.call Wanted.none rfl rfl (units_fn s H) ?_
  rintro _ H1 hH1 ⟨bs, rfl, hb⟩
  refine J2 ?_
  refine T.rangeFunc rfl rfl (units_iter s bs H1 _ zO hb) (fun _ => rfl) rfl zD
    (fun n lk _ => lk = [(b2, .cells #[.bool false] 4 (0, 0))] ∧ ((units s).take n).all okU = true)
    (fun c lk _ => c = .ret ∧ lk = [(b2, .cells #[.bool false] 4 (0, 0))] ∧ validS s = false)
    ⟨rfl, rfl⟩ ?_ ?_ ?_
  · rintro n x lk Hk hx ⟨rfl, hok⟩ hle L rec lo hrec
    refine sr ?_; refine sy fun b3 => ?_; refine yq2 ?_; refine so ?_; refine T.begin (lk := [_, _]) hrec ?_; refine J4 ?_; refine T.callV Wanted.none rfl rfl (unitValid_fn x Hk) ?_; refine J2 ?_
    refine T.cond rfl (fun hc => ?_) (fun hc => ?_)
    · refine zs3 ?_; refine yq1 ?_; refine so ?_
      refine T.roundRet [_] zq4 (Hp.le.refl _) ⟨rfl, rfl, ?_⟩
      rw [validS, Bool.eq_false_iff]
      intro hall
      rw [List.all_eq_true.1 hall x (List.mem_of_getElem? hx)] at hc
      simp at hc
    · refine J2 ?_
      refine T.roundEnd [_] zq4 (Hp.le.refl _) ⟨rfl, ?_⟩
      rw [List.take_add_one, hx, List.all_append, hok]
      simpa using hc
  · rintro r lk Hk hle ⟨rfl, hok⟩
    refine J3 ?_; refine yq1 ?_; refine so ?_
    refine T.retF (Lv.mark Upd.head (Lv.fin zq6 ?_))
    rw [List.take_length] at hok
    rw [validS, hok]
  · rintro c r lk Hk hle ⟨rfl, rfl, hok⟩
    refine T.retF (Lv.mark Upd.head (Lv.fin zq6 ?_))
    rw [hok]
/-! ### values -/
def badU (u : U) : Bool := decide ((u.r : Int) ≤ 31) || decide ((u.r : Int) = 127)
/-- the error of a value -/
def vvE (s : ByteArray) : Int := if 120 < s.size then 2 else if validS s = false then 7 else if (units s).any badU then 14 else 0
theorem vvE_size {s : ByteArray} (h : vvE s = 0) : s.size ≤ 120 := by
  unfold vvE at h
  split at h
  · cases h
  · omega
theorem vv_fn (s : ByteArray) (H : Hp) : Fn Tryz.prog 197 #[.string s] H (fun u _ => u = .int .i64 (vvE s)) := by
  refine Fn.of_T (vs := [.string s]) Tryz.func197 rfl rfl fun w => ?_
  unfold vvE
  by_cases h1 : 120 < s.size
  · rw [if_pos h1]
    refine J18 ?_
    exact T.retF (Lv.fin (RV.tmp rfl rfl) rfl)
  rw [if_neg h1]
  have hv := validP_fn s H zO
  cases h2 : validS s
  · rw [h2] at hv
    rw [if_pos rfl]
    refine J17 ?_; refine T.callV Wanted.none rfl rfl (hv) ?_; refine J8 ?_
    exact T.retF (Lv.fin (RV.tmp rfl rfl) rfl)
  rw [h2] at hv
  rw [if_neg zD]
  refine J17 ?_; refine T.callV Wanted.none rfl rfl (hv) ?_; refine J10 ?_; (refine T.rangeStr Wanted.none rfl rfl ?_; intro b14); refine J2 ?_
  refine T.loop (γ := Nat × Nat) (fun g => (unitsFrom s g.1 g.2).any badU = (units s).any badU ∧ s.size ≤ g.2 + g.1 ∧ g.2 ≤ s.size)
    (fun g => [(14, .pointer (some ⟨b14, 0, none⟩))])
    (fun g => [(b14, .stringIter s g.2)])
    (fun _ => H) (fun g => g.1) (s.size, 0) ⟨by simp [units], by simp, by simp⟩ zq8 zq4 rfl ?_
  rintro ⟨n, p⟩ ⟨h3, h4, h5⟩
  dsimp only at h3 h4 h5 ⊢
  refine zs3 ?_
  by_cases hp : p < s.size
  · obtain ⟨d1, d2, d3⟩ := decode_width s p hp
    obtain ⟨rr, wd, hd⟩ : ∃ r wd, Utf8.decode s p = (r, wd) := ⟨_, _, rfl⟩
    rw [hd] at d1 d2 d3
    dsimp only at d1 d2 d3
    obtain ⟨n, rfl⟩ : ∃ m, n = m + 1 := ⟨n - 1, by omega⟩
    rw [unitsFrom, if_pos hp, hd, List.any_cons] at h3
    dsimp only at h3
    refine T.nextStr zq22 rfl rfl zA zA zq14 ?_
    by_cases h6 : (rr : Int) ≤ 31
    · have hb : badU ⟨rr, p, wd⟩ = true := by unfold badU; simp [h6]
      rw [hb] at h3
      refine J16 ?_; refine T.setT (d := 20) rfl zO ?_; refine J9 ?_
      exact T.retF (Lv.fin (RV.tmp rfl rfl) (by rw [← h3]; rfl))
    · by_cases h7 : (rr : Int) = 127
      · have hb : badU ⟨rr, p, wd⟩ = true := by unfold badU; simp [h7]
        rw [hb] at h3
        refine J16 ?_; refine T.setF (d := 20) rfl zO ?_; refine J9 ?_
        exact T.retF (Lv.fin (RV.tmp rfl rfl) (by rw [← h3]; rfl))
      · have hb : badU ⟨rr, p, wd⟩ = false := by unfold badU; simp [h6, h7]
        rw [hb, Bool.false_or] at h3
        refine J16 ?_; refine T.setF (d := 20) rfl zO ?_; refine J7 ?_
        exact T.next (n, p + wd) ⟨h3, by dsimp only; omega, by dsimp only; omega⟩ zE zq8 zq4 rfl
  · have h0 : unitsFrom s n p = [] := by cases n <;> simp [unitsFrom, hp]
    rw [h0] at h3
    refine T.nextStrEnd zq22 rfl rfl zq2 zO ?_; refine J9 ?_
    exact T.retF (Lv.fin (RV.tmp rfl rfl) (by rw [← h3]; rfl))

end Go.Proofs.YtecogbhbkccblaaGreatDoor
