/- any corpus in memory: its weight is some number.
   the whole: small corpora, columns.
   an argument that is a corpus: opened to what it holds. -/
import Derived.Deep.Slices
import Derived.Test.YtecogbhbkccblaaGreatDoorGF
import Derived.Test.YtecogbhbkccblaaGreatDoorGM
set_option maxRecDepth 4000
set_option maxHeartbeats 40000000
set_option linter.all false
namespace Go.Proofs.YtecogbhbkccblaaGreatDoor
open Go.RowKit


theorem PV.addW {P : Program} {e : Env} {l : List (Nat × Obj)} {H : Hp} {dst : Option Nat} {ty : TypeId} {pos : String} {after : Array Edge} {gd : Option (Nat × Bool)} {x y : Operand} {t t' : TypeId} {m n : Int} (hx : evE e x = some (.int .i64 m)) (hy : evE e y = some (.int .i64 n)) :
    PV P e l H ⟨dst, .binOp .add t x y t', ty, pos, after, gd⟩ (.int .i64 (IntKind.i64.wrap (m + n))) := PV.mk fun X D a w ha hw => by
  simp [execOp, ha.eval hx, ha.eval hy, binOp, eqGuard, Op.intArith]
def wpStep (n : Int) (p : ByteArray × ByteArray) : Int := IntKind.i64.wrap (n + IntKind.i64.wrap ((p.1.size : Int) + (p.2.size : Int)))
/-- the weight of some pairs, as the machine counts -/
def wpF (l : List (ByteArray × ByteArray)) (i : Nat) : Int := (l.take i).foldl wpStep (l.length : Int)
theorem wpF_succ {l : List (ByteArray × ByteArray)} {i : Nat} {p : ByteArray × ByteArray} (h : l[i]? = some p) : wpF l (i + 1) = IntKind.i64.wrap (wpF l i + IntKind.i64.wrap ((p.1.size : Int) + (p.2.size : Int))) := by
  unfold wpF
  rw [List.take_add_one, h, Option.toList_some, List.foldl_append]; rfl
theorem weightP_fn (l : List (ByteArray × ByteArray)) (v : Value) (H : Hp) (hv : PrA H v l) : Fn Tryz.prog 52 #[v] H (fun u _ => u = .int .i64 (wpF l l.length)) := by
  obtain ⟨ad, cap, rfl⟩ := hv.1.len
  have hll := hv.2
  refine Fn.of_T (vs := [.slice ad l.length cap]) Tryz.func52 rfl rfl fun w => ?_; refine J18 ?_; refine T.loopK [(9, Value.int IntKind.i64 (↑l.length : Int)), (8, Value.slice ad l.length cap)] zq8 (γ := Nat) (fun g => g ≤ l.length) (fun g => [(10, .int .i64 (g : Int)), (3, .int .i64 (wpF l g))]) (fun _ => _) (fun _ => H) (fun g => l.length - g) 0 (Nat.zero_le _) zq8 (Sel.refl _) rfl ?_
  intro i hi0
  by_cases hi : i < l.length
  · obtain ⟨p, hp⟩ : ∃ z, l[i]? = some z := ⟨_, List.getElem?_eq_getElem hi⟩
    have hsc := wpF_succ hp
    obtain ⟨b, off, rfl, hsub⟩ := RowL.at encPr_len hv.1 hp
    unfold encPr at hsub
    refine J12 ?_; refine yq20 ?_; refine sy fun b5 => ?_; refine yq2 ?_; refine J9 ?_; refine sv (PV.addW rfl rfl) ?_; refine sv (PV.addW rfl rfl) ?_; refine J7 ?_
    refine T.nextP (i + 1) zO zO ?_ zq23 rfl
    rw [hsc]
    exact zq8
  · obtain rfl : i = l.length := by omega
    refine J12 ?_
    exact T.retF (Lv.fin (RV.tmp rfl rfl) rfl)
theorem weight_fn (c : Cp) (H : Hp) (hc : CpA H c) : Fn Tryz.prog 23 #[cpV c] H (fun u _ => IsI u) := by
  obtain ⟨aa, ca, at1, ct, ax, cx, ar, cr, an, cn, ah, ch, as1, cs, hcv, ha, ht, hx, hr, hn, hh, hs⟩ := hc.open; rw [hcv]; have hla := hc.la; have hlt := hc.lt; have hlx := hc.lx; have hlr := hc.lr; have hln := hc.ln; have hlh := hc.lh; have hls := hc.ls
  refine Fn.of_T (vs := [.agg #[.slice aa c.att.length ca, .slice at1 c.tk.length ct, .slice ax c.tx.length cx, .slice ar c.rg.length cr, .slice an c.nd.length cn, .slice ah c.hd.length ch, .slice as1 c.rl.length cs]]) Tryz.func23 rfl rfl fun w => ?_; refine zs3 ?_; (refine T.box Wanted.none rfl rfl zq15 ?_; intro b1); refine J10 ?_; refine sv (PV.addW rfl rfl) ?_; refine J11 ?_; refine T.loopK [(27, Value.int IntKind.i64 (↑c.att.length : Int)), (26, Value.slice aa c.att.length ca), (1, Value.pointer (some { block := b1, off := 0 }))] zq8 (γ := Nat × Int) (fun g => g.1 ≤ c.att.length) (fun g => [(28, .int .i64 (g.1 : Int)), (3, .int .i64 g.2)]) (fun _ => _) (fun _ => H) (fun g => c.att.length - g.1) (0, _) (Nat.zero_le _) zq8 (Sel.refl _) rfl ?_
  rintro ⟨i, n⟩ hi0
  dsimp only at hi0 ⊢
  by_cases hi : i < c.att.length
  · obtain ⟨b, off, ⟨nm, st⟩, rfl, hx2, hsub⟩ := RowL.get encAt_len ha hi
    unfold encAt at hsub
    refine J12 ?_; refine yq20 ?_; refine sy fun b5 => ?_; refine yq2 ?_; refine J6 ?_; refine sv (PV.addW rfl rfl) ?_; refine J7 ?_
    exact T.nextP (i + 1, _) zE zE zq8 zq23 rfl
  · refine J16 ?_; refine T.loopK [(40, Value.int IntKind.i64 (↑c.tk.length : Int)), (39, Value.slice at1 c.tk.length ct), (1, Value.pointer (some { block := b1, off := 0 }))] zq8 (γ := Nat × Int) (fun g => g.1 ≤ c.tk.length) (fun g => [(41, .int .i64 (g.1 : Int)), (3, .int .i64 g.2)]) (fun _ => _) (fun _ => H) (fun g => c.tk.length - g.1) (0, _) (Nat.zero_le _) zq8 (Sel.refl _) rfl ?_
    rintro ⟨i, n⟩ hi0
    dsimp only at hi0 ⊢
    by_cases hi : i < c.tk.length
    · obtain ⟨bx, off, x, rfl, hix, hsub⟩ := RowL.get encTk_len ht hi
      unfold encTk at hsub
      have hxo := hc.tO x (List.mem_of_getElem? hix)
      obtain ⟨v, ss⟩ := x
      obtain ⟨as2, cs2, hve⟩ := hxo.1.len
      dsimp only at hve
      subst hve
      have hsl : ss.length ≤ 9223372036854775807 := hxo.2
      dsimp only at hsub
      refine J12 ?_; refine yq10 ?_; refine J5 ?_; refine sv (PV.addW rfl rfl) ?_; refine J9 ?_; refine T.loopK [(48, Value.int IntKind.i64 (↑ss.length : Int)), (47, Value.slice as2 ss.length cs2), (41, Value.int IntKind.i64 (↑i : Int)), (40, Value.int IntKind.i64 (↑c.tk.length : Int)), (39, Value.slice (some { block := bx, off := off }) c.tk.length ct), (1, Value.pointer (some { block := b1, off := 0 }))] zq8 (γ := Nat × Int) (fun g => g.1 ≤ ss.length) (fun g => [(49, .int .i64 (g.1 : Int)), (3, .int .i64 g.2)]) (fun _ => _) (fun _ => H) (fun g => ss.length - g.1) (0, _) (Nat.zero_le _) zq8 (Sel.refl _) rfl ?_
      rintro ⟨j, m⟩ hj0
      dsimp only at hj0 ⊢
      by_cases hj : j < ss.length
      · obtain ⟨by', offy, s, rfl, his, hsubs⟩ := RowL.get encT_len hxo.1 hj
        unfold encT at hsubs
        refine J12 ?_; refine yq10 ?_; refine J6 ?_; refine sv (PV.addW rfl rfl) ?_; refine sv (PV.addW rfl rfl) ?_; refine J7 ?_
        exact T.nextP (j + 1, _) zE zE zq8 zq23 rfl
      · refine J12 ?_
        exact T.nextP (i + 1, _) zE zE zq8 zq23 rfl
    · refine J16 ?_; refine T.loopK [(62, Value.int IntKind.i64 (↑c.tx.length : Int)), (61, Value.slice ax c.tx.length cx), (1, Value.pointer (some { block := b1, off := 0 }))] zq8 (γ := Nat × Int) (fun g => g.1 ≤ c.tx.length) (fun g => [(63, .int .i64 (g.1 : Int)), (3, .int .i64 g.2)]) (fun _ => _) (fun _ => H) (fun g => c.tx.length - g.1) (0, _) (Nat.zero_le _) zq8 (Sel.refl _) rfl ?_
      rintro ⟨i, n⟩ hi0
      dsimp only at hi0 ⊢
      by_cases hi : i < c.tx.length
      · obtain ⟨bx, off, x, rfl, hix, hsub⟩ := RowL.get encRg_len hx.1 hi
        unfold encRg at hsub
        have hxo := hx.2 x (List.mem_of_getElem? hix)
        obtain ⟨am, cm, hmv⟩ := hxo.1.len
        rw [hmv] at hsub
        have hp := weightP_fn x.ks x.kv H hxo
        rw [hmv] at hp
        refine J12 ?_; refine yq20 ?_; refine sy fun b11 => ?_; refine yq2 ?_; refine so ?_; refine yq70 ?_; refine I4 ?_; refine TQ.pv (PV.addW rfl rfl) Wanted.none rfl rfl ?_; refine I2 ?_; refine TQ.callV Wanted.none rfl rfl (hp) ?_; refine TQ.pv (PV.addW rfl rfl) Wanted.none rfl rfl ?_; refine TQ.pv (PV.addW rfl rfl) Wanted.none rfl rfl ?_; refine I2 ?_; refine J5 ?_
        exact T.nextP (i + 1, _) zE zE zq8 zq23 rfl
      · refine J16 ?_; refine T.loopK [(80, Value.int IntKind.i64 (↑c.rg.length : Int)), (79, Value.slice ar c.rg.length cr), (1, Value.pointer (some { block := b1, off := 0 }))] zq8 (γ := Nat × Int) (fun g => g.1 ≤ c.rg.length) (fun g => [(81, .int .i64 (g.1 : Int)), (3, .int .i64 g.2)]) (fun _ => _) (fun _ => H) (fun g => c.rg.length - g.1) (0, _) (Nat.zero_le _) zq8 (Sel.refl _) rfl ?_
        rintro ⟨i, n⟩ hi0
        dsimp only at hi0 ⊢
        by_cases hi : i < c.rg.length
        · obtain ⟨bx, off, x, rfl, hix, hsub⟩ := RowL.get encRg_len hr.1 hi
          unfold encRg at hsub
          have hxo := hr.2 x (List.mem_of_getElem? hix)
          obtain ⟨am, cm, hmv⟩ := hxo.1.len
          rw [hmv] at hsub
          have hp := weightP_fn x.ks x.kv H hxo
          rw [hmv] at hp
          refine J12 ?_; refine yq20 ?_; refine sy fun b13 => ?_; refine yq2 ?_; refine so ?_; refine yq70 ?_; refine I4 ?_; refine TQ.pv (PV.addW rfl rfl) Wanted.none rfl rfl ?_; refine I2 ?_; refine TQ.callV Wanted.none rfl rfl (hp) ?_; refine TQ.pv (PV.addW rfl rfl) Wanted.none rfl rfl ?_; refine TQ.pv (PV.addW rfl rfl) Wanted.none rfl rfl ?_; refine I2 ?_; refine J5 ?_
          exact T.nextP (i + 1, _) zE zE zq8 zq23 rfl
        · refine J16 ?_; refine T.loopK [(98, Value.int IntKind.i64 (↑c.nd.length : Int)), (97, Value.slice an c.nd.length cn), (1, Value.pointer (some { block := b1, off := 0 }))] zq8 (γ := Nat × Int) (fun g => g.1 ≤ c.nd.length) (fun g => [(99, .int .i64 (g.1 : Int)), (3, .int .i64 g.2)]) (fun _ => _) (fun _ => H) (fun g => c.nd.length - g.1) (0, _) (Nat.zero_le _) zq8 (Sel.refl _) rfl ?_
          rintro ⟨i, n⟩ hi0
          dsimp only at hi0 ⊢
          by_cases hi : i < c.nd.length
          · obtain ⟨bx, off, x, rfl, hix, hsub⟩ := RowL.get encNd_len hn hi
            unfold encNd at hsub
            refine J12 ?_; refine yq20 ?_; refine sy fun b15 => ?_; refine yq2 ?_; refine J6 ?_; refine sv (PV.addW rfl rfl) ?_; refine sv (PV.addW rfl rfl) ?_; refine J7 ?_
            exact T.nextP (i + 1, _) zE zE zq8 zq23 rfl
          · refine J16 ?_; refine T.loopK [(112, Value.int IntKind.i64 (↑c.rl.length : Int)), (111, Value.slice as1 c.rl.length cs)] zq8 (γ := Nat × Int) (fun g => g.1 ≤ c.rl.length) (fun g => [(113, .int .i64 (g.1 : Int)), (3, .int .i64 g.2)]) (fun _ => _) (fun _ => H) (fun g => c.rl.length - g.1) (0, _) (Nat.zero_le _) zq8 (Sel.refl _) rfl ?_
            rintro ⟨i, n⟩ hi0
            dsimp only at hi0 ⊢
            by_cases hi : i < c.rl.length
            · obtain ⟨b2, off2, y, rfl, hiy, hsub2⟩ := RowL.get encT_len hs hi
              unfold encT at hsub2
              refine J12 ?_; refine yq10 ?_; refine J6 ?_; refine sv (PV.addW rfl rfl) ?_; refine sv (PV.addW rfl rfl) ?_; refine J7 ?_
              exact T.nextP (i + 1, _) zE zE zq8 zq23 rfl
            · refine J12 ?_
              exact T.retF (Lv.fin (RV.tmp rfl rfl) ⟨_, rfl⟩)

end Go.Proofs.YtecogbhbkccblaaGreatDoor
namespace Go.Proofs.YtecogbhbkccblaaGreatDoor
open Go.RowKit


/-- any corpus in memory that is only read -/
structure CpR (H : Hp) (c : Cp) : Prop where
  a : SlR H 2 c.va c.att.length (c.att.flatMap encAt)
  t : SlR H 1 c.vt c.tk.length (c.tk.flatMap encTk)
  x : RgAL H c.vx c.tx
  r : RgAL H c.vr c.rg
  n : NdL H c.vn c.nd
  h : InL H c.vh c.hd
  s : StL H c.vs c.rl
  tO : ∀ t ∈ c.tk, TkA H t
  lh : c.hd.length ≤ 9223372036854775807
  ls : c.rl.length ≤ 9223372036854775807
theorem CpR.open {H : Hp} {c : Cp} (hc : CpR H c) : ∃ aa ca at1 ct ax cx ar cr an cn ah ch as1 cs, cpV c = .agg #[.slice aa c.att.length ca, .slice at1 c.tk.length ct, .slice ax c.tx.length cx, .slice ar c.rg.length cr, .slice an c.nd.length cn, .slice ah c.hd.length ch, .slice as1 c.rl.length cs] := by
  obtain ⟨aa, ca, h1⟩ := hc.a.len
  obtain ⟨at1, ct, h2⟩ := hc.t.len
  obtain ⟨ax, cx, h3⟩ := hc.x.1.len
  obtain ⟨ar, cr, h4⟩ := hc.r.1.len
  obtain ⟨an, cn, h5⟩ := hc.n.len
  obtain ⟨ah, ch, h6⟩ := hc.h.len
  obtain ⟨as1, cs, h7⟩ := hc.s.len
  exact ⟨aa, ca, at1, ct, ax, cx, ar, cr, an, cn, ah, ch, as1, cs, by unfold cpV; rw [h1, h2, h3, h4, h5, h6, h7]⟩
theorem tinyM_fn (m : Nat) (hm : m ≤ 1000) (c : Cp) (H : Hp) (hc : CpR H c) : Fn Tryz.prog 4 #[cpV c, .int .i64 (m : Int)] H (fun u _ => ∃ b : Bool, u = .bool b ∧ (b = true → CpA H c ∧ cpGood c ∧ c.tk.length ≤ m ∧ c.tx.length ≤ 5 ∧ c.rg.length ≤ 40 ∧ c.att.length ≤ 4)) := by
  have hA : c.tk.length ≤ m → c.tx.length ≤ 5 → c.rg.length ≤ 40 → c.nd.length ≤ 40 → c.att.length ≤ 4 → CpA H c := fun h1 h2 h3 h4 h5 =>
    ⟨hc.a, hc.t, hc.x, hc.r, hc.n, hc.h, hc.s, hc.tO, by omega, by omega, by omega, by omega, by omega, hc.lh, hc.ls⟩
  have hW := fun h => weight_fn c H h
  have hV := fun h => validA_fn c H h
  obtain ⟨aa, ca, at1, ct, ax, cx, ar, cr, an, cn, ah, ch, as1, cs, hcv⟩ := hc.open
  rw [hcv] at hW hV ⊢
  refine Fn.of_T (vs := [.agg #[.slice aa c.att.length ca, .slice at1 c.tk.length ct, .slice ax c.tx.length cx, .slice ar c.rg.length cr, .slice an c.nd.length cn, .slice ah c.hd.length ch, .slice as1 c.rl.length cs], .int .i64 (m : Int)]) Tryz.func4 rfl rfl fun w => ?_
  by_cases h1 : m < c.tk.length
  · refine zs3 ?_; (refine T.box Wanted.none rfl rfl zq15 ?_; intro b2); refine J11 ?_; refine T.setT (d := 10) rfl zO ?_; refine J27 ?_
    refine J7 ?_
    exact T.retF (Lv.fin (RV.tmp rfl rfl) ⟨_, rfl, fun h => by cases h⟩)
  by_cases h2 : 5 < c.tx.length
  · refine zs3 ?_; (refine T.box Wanted.none rfl rfl zq15 ?_; intro b2); refine J11 ?_; refine T.setF (d := 10) rfl zO ?_; refine J6 ?_; refine T.setT (d := 16) rfl zO ?_; refine J20 ?_
    refine J8 ?_
    exact T.retF (Lv.fin (RV.tmp rfl rfl) ⟨_, rfl, fun h => by cases h⟩)
  by_cases h3 : 40 < c.rg.length
  · refine zs3 ?_; (refine T.box Wanted.none rfl rfl zq15 ?_; intro b2); refine J11 ?_; refine T.setF (d := 10) rfl zO ?_; refine J6 ?_; refine T.setF (d := 16) rfl zO ?_; refine J6 ?_; refine T.setT (d := 22) rfl zO ?_; refine J13 ?_
    refine J9 ?_
    exact T.retF (Lv.fin (RV.tmp rfl rfl) ⟨_, rfl, fun h => by cases h⟩)
  by_cases h4 : 40 < c.nd.length
  · refine zs3 ?_; (refine T.box Wanted.none rfl rfl zq15 ?_; intro b2); refine J11 ?_; refine T.setF (d := 10) rfl zO ?_; refine J6 ?_; refine T.setF (d := 16) rfl zO ?_; refine J6 ?_; refine T.setF (d := 22) rfl zO ?_; refine J6 ?_; refine T.setT (d := 28) rfl zO ?_; refine J6 ?_
    refine J10 ?_
    exact T.retF (Lv.fin (RV.tmp rfl rfl) ⟨_, rfl, fun h => by cases h⟩)
  by_cases h5 : 4 < c.att.length
  · refine zs3 ?_; (refine T.box Wanted.none rfl rfl zq15 ?_; intro b2); refine J11 ?_; refine T.setF (d := 10) rfl zO ?_; refine J6 ?_; refine T.setF (d := 16) rfl zO ?_; refine J6 ?_; refine T.setF (d := 22) rfl zO ?_; refine J6 ?_; refine T.setF (d := 28) rfl zO ?_; refine J6 ?_
    refine T.setT (d := 34) rfl zO ?_; refine J10 ?_
    exact T.retF (Lv.fin (RV.tmp rfl rfl) ⟨_, rfl, fun h => by cases h⟩)
  have hcA := hA zO zO zO zO zO
  have hw := hW hcA
  have hv := hV hcA
  refine zs3 ?_; (refine T.box Wanted.none rfl rfl zq15 ?_; intro b2); refine J11 ?_; refine T.setF (d := 10) rfl zO ?_; refine J6 ?_; refine T.setF (d := 16) rfl zO ?_; refine J6 ?_; refine T.setF (d := 22) rfl zO ?_; refine J6 ?_; refine T.setF (d := 28) rfl zO ?_; refine J6 ?_
  refine T.setF (d := 34) rfl zO ?_; refine gv (PV.loadAll rfl zq0 zX) ?_; (refine T.callX (Wanted.guard rfl rfl rfl) rfl rfl hw ?_; rintro _ ⟨n, rfl⟩); refine J3 ?_
  by_cases h6 : 2500 < n
  · refine J5 ?_
    exact T.retF (Lv.fin (RV.tmp rfl rfl) ⟨_, rfl, fun h => by cases h⟩)
  · refine J5 ?_; (refine T.callX Wanted.none rfl rfl hv ?_; rintro _ ⟨b40, rfl, hb40⟩); refine J2 ?_
    exact T.retF (Lv.fin (RV.tmp rfl rfl) ⟨_, rfl, fun h => ⟨hcA, hb40 h, by omega, by omega, by omega, by omega⟩⟩)
noncomputable def colL (c : Cp) (a n : Nat) : List ByteArray := (List.range n).map (valT c a)
theorem colL_succ (c : Cp) (a n : Nat) : colL c a (n + 1) = colL c a n ++ [valT c a n] := by
  unfold colL
  rw [List.range_succ, List.map_append]; rfl
theorem colL_len (c : Cp) (a n : Nat) : (colL c a n).length = n := by unfold colL; simp
theorem column_fn (c : Cp) (a : Nat) (H : Hp) (hc : CpA H c) (hg : cpGood c) (hal : a < c.att.length) : Fn Tryz.prog 5 #[cpV c, .int .i64 (a : Int)] H (fun u H' => StL H' u (colL c a c.tk.length)) := by
  obtain ⟨aa, ca, at1, ct, ax, cx, ar, cr, an, cn, ah, ch, as1, cs, hcv, ha, ht, hx, hr, hn, hh, hs⟩ := hc.open; rw [hcv]; have hla := hc.la; have hlt := hc.lt; have hlx := hc.lx; have hlr := hc.lr; have hln := hc.ln; have hlh := hc.lh; have hls := hc.ls
  refine Fn.of_T (vs := [.agg #[.slice aa c.att.length ca, .slice at1 c.tk.length ct, .slice ax c.tx.length cx, .slice ar c.rg.length cr, .slice an c.nd.length cn, .slice ah c.hd.length ch, .slice as1 c.rl.length cs], .int .i64 (a : Int)]) Tryz.func5 rfl rfl fun w => ?_; refine zs3 ?_; (refine T.box Wanted.none rfl rfl zq15 ?_; intro b2); refine J15 ?_; refine T.loopK [(10, Value.int IntKind.i64 (↑c.tk.length : Int)), (9, Value.slice at1 c.tk.length ct), (1, Value.int IntKind.i64 (↑a : Int))] zq8 (γ := SelS) (fun s => s.i ≤ c.tk.length ∧ RowV 9 encT 1 s.v s.lv (colL c a s.i)) (fun s => [(11, .int .i64 (s.i : Int)), (5, s.v)]) (fun s => s.lv ++ _) (fun _ => H) (fun s => c.tk.length - s.i) ⟨0, .slice none 0 0, []⟩ ⟨Nat.zero_le _, Vec.nil _ _⟩ zq8 zq23 rfl ?_
  rintro ⟨i, v, lv⟩ ⟨g1, g2⟩
  dsimp only at g1 g2 ⊢
  obtain ⟨ad, cap, rfl⟩ := g2.val
  have hcl := colL_len c a i
  by_cases hi : i < c.tk.length
  · obtain ⟨t, hti, hsa⟩ := valT_at hg hi hal
    have hto := hc.tO t (List.mem_of_getElem? hti)
    have hal2 := (List.getElem?_eq_some_iff.1 hsa).1
    obtain ⟨b, off, x, rfl, hix, hsub⟩ := RowL.get encTk_len ht (i := i) zO
    rw [hti] at hix
    obtain rfl := Option.some.inj hix
    obtain ⟨av, cv, hvv⟩ := hto.1.len
    have hst := hto.1
    rw [hvv] at hst
    unfold encTk at hsub
    rw [hvv] at hsub
    obtain ⟨b2, off2, x2, rfl, hix2, hsub2⟩ := RowL.get encT_len hst (i := a) zO
    rw [hsa] at hix2
    obtain rfl := Option.some.inj hix2
    unfold encT at hsub2
    refine J12 ?_; refine yq10 ?_; refine yq97 ?_; (refine T.buildSlice Wanted.none rfl rfl zq11 zX zX ?_; intro b20); (refine T.appendP (lv := lv) Wanted.none rfl rfl rfl g2 (Src.cells (m := 1) (ys := encT _) (.own zq2) rfl rfl) (one_encT _) zO zq1 ?_; intro v21 lv21 hv21 _); refine J7 ?_
    exact T.nextP ⟨i + 1, _, lv21⟩ ⟨by dsimp only; omega, by rw [colL_succ]; exact RowV.snoc hv21⟩ zE zq8 zq23 rfl
  · obtain rfl : i = c.tk.length := by omega
    refine J12 ?_; refine T.freezeP (lv := lv) g2 zq1 ?_
    intro Ha hla2 hsa
    refine T.retF (Lv.fin (RV.tmp rfl rfl) ?_)
    unfold StL
    rw [hcl] at hsa ⊢
    exact hsa
end Go.Proofs.YtecogbhbkccblaaGreatDoor
namespace Go.Proofs.YtecogbhbkccblaaGreatDoor
open Go.RowKit
 Go.ChangeShapes Go.WideShapes Go.ChangeAt Go.Deep

section
variable {H : Type} {enc : TypeId × Value → H} {P : Program} {w : World} {base : Nat} {spare : Nat → Bool} {held : Bool}
/-- how a value of a type reads: what its cells are -/
def Reads (enc : TypeId × Value → H) (P : Program) (w : World) (base : Nat) (spare : Nat → Bool) (held : Bool) {α : Type} (t : TypeId) (en : α → List Value) (Q : α → Prop) : Prop :=
  ∀ (n : Nat) (cs : List Value) (y : DataW H × List MemPlace), DataW.trod enc P w base spare held n t cs = some y → ∃ a : α, cs = en a ∧ Q a
theorem reads_int {t : TypeId} (h : P.underlying t = some (.int .i64)) : Reads enc P w base spare held t (fun a : Int => [.int .i64 a]) (fun _ => True) := fun n cs y ht => by
  obtain ⟨x, hx, _, _⟩ := DataW.trod_int h ht
  exact ⟨x, hx, trivial⟩
theorem reads_str {t : TypeId} (h : P.underlying t = some .string) : Reads enc P w base spare held t (fun a : ByteArray => [.string a]) (fun _ => True) := fun n cs y ht => by
  obtain ⟨x, hx, _⟩ := DataW.trod_string h ht
  exact ⟨x, hx, trivial⟩
theorem reads_bool {t : TypeId} (h : P.underlying t = some .bool) : Reads enc P w base spare held t (fun a : Bool => [.bool a]) (fun _ => True) := fun n cs y ht => by
  obtain ⟨x, hx, _⟩ := DataW.trod_bool h ht
  exact ⟨x, hx, trivial⟩
/-- a slice, by its elements -/
theorem reads_slice {α : Type} {en : α → List Value} {sz : Nat} {Q : α → Prop} (hsz : 0 < sz) (hen : ∀ x, (en x).length = sz) {t e : TypeId} (ht : P.underlying t = some (.slice e)) (ce : P.cellsOf e = sz)
    (hE : Reads enc P w base spare held e en Q) :
    Reads enc P w base spare held t (fun a : Value × List α => [a.1]) (fun a => SlR (fun b => w.heap[b]?) sz a.1 a.2.length (a.2.flatMap en) ∧ a.2.length ≤ maxLen ∧ ∀ x ∈ a.2, Q x) := fun fuel cs0 x h => by
  rcases open_slice ht h with ⟨hcs, _⟩ | ⟨ad, len, cap, m, n, D, Pl, hcs, _, hlc, hm, hmm, hx, hI⟩
  · exact ⟨(.slice none 0 0, []), hcs, SlR.empty, Nat.zero_le _, by simp⟩
  · have hlm : len ≤ m := by rw [hmm]; split <;> omega
    simp only [ce] at hI
    have hE2 : ∀ i, i < len → ∃ a : α, Q a ∧ ∀ j, j < sz → w.cell? (ad.add (i * sz + j)) = (en a)[j]? := by
      intro i hin
      obtain ⟨cs', hc, ht'⟩ := hI i zO
      obtain ⟨_, hcl, hat⟩ := World.cells?_some hc
      obtain ⟨a, rfl, hq⟩ := hE n cs' _ ht'
      refine ⟨a, hq, fun j hj => ?_⟩
      rw [← hat j hj]
      congr 1
      rw [Addr.add_add]
    rcases Nat.eq_zero_or_pos len with h00 | hpos
    · subst h00
      exact ⟨(_, []), hcs, ⟨by simp, .inl ⟨⟨_, _, rfl⟩, rfl⟩⟩, Nat.zero_le _, by simp⟩
    let F : Nat → α := fun i => if hh : i < len then (hE2 i hh).choose else (hE2 0 hpos).choose
    have hF : ∀ i, i < len → Q (F i) ∧ ∀ j, j < sz → w.cell? (ad.add (i * sz + j)) = (en (F i))[j]? := by
      intro i hh
      have := (hE2 i hh).choose_spec
      simp only [F, dif_pos hh]; exact this
    have hlF : ((List.range len).map F).length = len := by rw [List.length_map, List.length_range]
    refine ⟨(_, (List.range len).map F), hcs, ?_, by show ((List.range len).map F).length ≤ maxLen; rw [hlF]; omega, fun y hy => ?_⟩
    · show SlR _ sz _ ((List.range len).map F).length _
      rw [hlF]
      refine row_slrX hsz hpos hlc (by rw [flat_len (f := en) (sz := sz) hen, hlF]) fun j hj => ?_
      have hmod := Nat.mod_lt j hsz
      have hq' : j / sz < len := Nat.div_lt_of_lt_mul (by rw [Nat.mul_comm]; exact hj)
      have hel := flat_elem (f := en) (sz := sz) hen ((List.range len).map F) (j / sz) (F (j / sz)) (by rw [List.getElem?_map, List.getElem?_range hq']; rfl)
      have e2 : (((List.range len).map F).flatMap en)[j]? = (en (F (j / sz)))[j % sz]? := by
        rw [← hel, List.getElem?_take, if_pos hmod, List.getElem?_drop]
        congr 1
        exact (Nat.div_add_mod' j sz).symm
      rw [e2, ← (hF _ hq').2 _ hmod]
      congr 2
      exact (Nat.div_add_mod' j sz).symm
    · obtain ⟨i, hir, rfl⟩ := List.mem_map.1 hy
      exact (hF i (List.mem_range.1 hir)).1
/-- the fields of a struct of one-cell fields -/
theorem struct_fields {t : TypeId} {fs : Array Field} {m n : Nat} {cs : List Value} {y : DataW H × List MemPlace} (hs : P.underlying t = some (.struct fs)) (hone : oneCellFields P fs = true) (hm : fs.size = m) (hl : cs.length = m)
    (h : DataW.trod enc P w base spare held n t cs = some y) : ∃ k, ∀ (j : Nat) (f : Field), fs[j]? = some f → j < m → ∃ u z, cs[j]? = some u ∧ DataW.trod enc P w base spare held k f.type [u] = some z := by
  obtain ⟨ys, k, _, hy, _, hyl, hfs⟩ := DataW.trod_struct hs h
  refine ⟨k, fun j f hj hjn => ?_⟩
  obtain ⟨ho, hk⟩ := hone_of hone j f hj
  have h1 := hfs j f hj
  have hyl' : j < ys.length := by rw [hyl, hm]; exact hjn
  rw [ho, hk, List.drop_eq_getElem_cons zO] at h1
  exact ⟨cs[j]'zO, ys[j]'hyl', List.getElem?_eq_getElem zO, by rw [← List.getElem?_eq_getElem, ← h1]; rfl⟩
theorem reads_map {α β : Type} {t : TypeId} {en : α → List Value} {en' : β → List Value} {Q : α → Prop} {Q' : β → Prop} (f : α → β) (he : ∀ a, en a = en' (f a)) (hq : ∀ a, Q a → Q' (f a))
    (r : Reads enc P w base spare held t en Q) : Reads enc P w base spare held t en' Q' := fun n cs y h => by
  obtain ⟨a, rfl, h2⟩ := r n cs y h
  exact ⟨f a, he a, hq a h2⟩
theorem reads_struct2 {α0 α1 : Type} {g0 : α0 → Value} {g1 : α1 → Value} {Q0 : α0 → Prop} {Q1 : α1 → Prop} {t : TypeId} {f0 f1 : Field} (hs : P.underlying t = some (.struct #[f0, f1])) (hone : oneCellFields P #[f0, f1] = true) (hC : P.cellsOf t = 2)
    (r0 : Reads enc P w base spare held f0.type (fun a => [g0 a]) Q0) (r1 : Reads enc P w base spare held f1.type (fun a => [g1 a]) Q1) :
    Reads enc P w base spare held t (fun a : α0 × α1 => [g0 a.1, g1 a.2]) (fun a => Q0 a.1 ∧ Q1 a.2) := fun n cs y h => by
  have hl : cs.length = 2 := by obtain ⟨_, _, _, _, h2, _⟩ := DataW.trod_struct hs h; rw [h2, hC]
  obtain ⟨k, hf⟩ := struct_fields (m := 2) hs hone rfl hl h
  obtain ⟨u0, z0, c0, t0⟩ := hf 0 f0 rfl zO
  obtain ⟨u1, z1, c1, t1⟩ := hf 1 f1 rfl zO
  obtain ⟨a0, e0, q0⟩ := r0 _ _ _ t0
  obtain ⟨a1, e1, q1⟩ := r1 _ _ _ t1
  refine ⟨(a0, a1), ?_, q0, q1⟩
  match cs, hl, c0, c1 with
  | [x, y], _, c0, c1 =>
    simp at c0 c1 e0 e1
    subst c0 c1 e0 e1
    rfl
theorem reads_struct4 {α0 α1 α2 α3 : Type} {g0 : α0 → Value} {g1 : α1 → Value} {g2 : α2 → Value} {g3 : α3 → Value} {Q0 : α0 → Prop} {Q1 : α1 → Prop} {Q2 : α2 → Prop} {Q3 : α3 → Prop} {t : TypeId} {f0 f1 f2 f3 : Field}
    (hs : P.underlying t = some (.struct #[f0, f1, f2, f3])) (hone : oneCellFields P #[f0, f1, f2, f3] = true) (hC : P.cellsOf t = 4)
    (r0 : Reads enc P w base spare held f0.type (fun a => [g0 a]) Q0) (r1 : Reads enc P w base spare held f1.type (fun a => [g1 a]) Q1) (r2 : Reads enc P w base spare held f2.type (fun a => [g2 a]) Q2) (r3 : Reads enc P w base spare held f3.type (fun a => [g3 a]) Q3) :
    Reads enc P w base spare held t (fun a : α0 × α1 × α2 × α3 => [g0 a.1, g1 a.2.1, g2 a.2.2.1, g3 a.2.2.2]) (fun a => Q0 a.1 ∧ Q1 a.2.1 ∧ Q2 a.2.2.1 ∧ Q3 a.2.2.2) := fun n cs y h => by
  have hl : cs.length = 4 := by obtain ⟨_, _, _, _, h2, _⟩ := DataW.trod_struct hs h; rw [h2, hC]
  obtain ⟨k, hf⟩ := struct_fields (m := 4) hs hone rfl hl h
  obtain ⟨u0, z0, c0, t0⟩ := hf 0 f0 rfl zO
  obtain ⟨u1, z1, c1, t1⟩ := hf 1 f1 rfl zO
  obtain ⟨u2, z2, c2, t2⟩ := hf 2 f2 rfl zO
  obtain ⟨u3, z3, c3, t3⟩ := hf 3 f3 rfl zO
  obtain ⟨a0, e0, q0⟩ := r0 _ _ _ t0
  obtain ⟨a1, e1, q1⟩ := r1 _ _ _ t1
  obtain ⟨a2, e2, q2⟩ := r2 _ _ _ t2
  obtain ⟨a3, e3, q3⟩ := r3 _ _ _ t3
  refine ⟨(a0, a1, a2, a3), ?_, q0, q1, q2, q3⟩
  match cs, hl, c0, c1, c2, c3 with
  | [x, y, z, u], _, c0, c1, c2, c3 =>
    simp at c0 c1 c2 c3 e0 e1 e2 e3
    subst c0 c1 c2 c3 e0 e1 e2 e3
    rfl
/-! ### a corpus -/
theorem reads_intI {t : TypeId} (h : P.underlying t = some (.int .i64)) : Reads enc P w base spare held t encI (fun _ => True) := reads_int h
theorem reads_strT {t : TypeId} (h : P.underlying t = some .string) : Reads enc P w base spare held t encT (fun _ => True) := reads_str h
theorem rd_attr : Reads enc Tryz.prog w base spare held 105 encAt (fun _ => True) := by
  have r := reads_struct2 (enc := enc) (w := w) (base := base) (spare := spare) (held := held) (g0 := Value.string) (g1 := Value.bool) Tryz.underlying105 zK zK (reads_str Tryz.underlying9) (reads_bool Tryz.underlying4)
  exact reads_map (fun a => a) (fun _ => rfl) (fun _ _ => trivial) r
theorem rd_pair : Reads enc Tryz.prog w base spare held 170 encPr (fun _ => True) := by
  have r := reads_struct2 (enc := enc) (w := w) (base := base) (spare := spare) (held := held) (g0 := Value.string) (g1 := Value.string) Tryz.underlying170 zK zK (reads_str Tryz.underlying9) (reads_str Tryz.underlying9)
  exact reads_map (fun a => a) (fun _ => rfl) (fun _ _ => trivial) r
theorem rd_pairs : Reads enc Tryz.prog w base spare held 108 (fun a : Value × List (ByteArray × ByteArray) => [a.1]) (fun a => PrA (fun b => w.heap[b]?) a.1 a.2) := by
  have r := reads_slice (enc := enc) (w := w) (base := base) (spare := spare) (held := held) zD encPr_len Tryz.underlying108 zK rd_pair
  exact reads_map (fun a => a) (fun _ => rfl) (fun _ h => ⟨h.1, by have := h.2.1; unfold maxLen at this; omega⟩) r
theorem rd_strs : Reads enc Tryz.prog w base spare held 28 encTk (fun t => TkA (fun b => w.heap[b]?) t) := by
  have r := reads_slice (enc := enc) (w := w) (base := base) (spare := spare) (held := held) zD encT_len Tryz.underlying28 zK (reads_strT Tryz.underlying9)
  exact reads_map (fun a : Value × List ByteArray => (⟨a.1, a.2⟩ : Tk)) (fun _ => rfl) (fun _ h => ⟨h.1, by have := h.2.1; unfold maxLen at this; dsimp only; omega⟩) r
theorem rd_text : Reads enc Tryz.prog w base spare held 112 encRg (fun r => RgA (fun b => w.heap[b]?) r) := by
  have r := reads_struct4 (enc := enc) (w := w) (base := base) (spare := spare) (held := held) (g0 := Value.string) (g1 := Value.int .i64) (g2 := Value.int .i64) (g3 := fun a : Value × List (ByteArray × ByteArray) => a.1) Tryz.underlying112 zK zK (reads_str Tryz.underlying9) (reads_int Tryz.underlying3) (reads_int Tryz.underlying3) rd_pairs
  exact reads_map (fun a : ByteArray × Int × Int × Value × List (ByteArray × ByteArray) => (⟨a.1, a.2.1, a.2.2.1, a.2.2.2.1, a.2.2.2.2⟩ : Rg)) (fun _ => rfl) (fun _ h => h.2.2.2) r
theorem rd_region : Reads enc Tryz.prog w base spare held 110 encRg (fun r => RgA (fun b => w.heap[b]?) r) := by
  have r := reads_struct4 (enc := enc) (w := w) (base := base) (spare := spare) (held := held) (g0 := Value.string) (g1 := Value.int .i64) (g2 := Value.int .i64) (g3 := fun a : Value × List (ByteArray × ByteArray) => a.1) Tryz.underlying110 zK zK (reads_str Tryz.underlying9) (reads_int Tryz.underlying3) (reads_int Tryz.underlying3) rd_pairs
  exact reads_map (fun a : ByteArray × Int × Int × Value × List (ByteArray × ByteArray) => (⟨a.1, a.2.1, a.2.2.1, a.2.2.2.1, a.2.2.2.2⟩ : Rg)) (fun _ => rfl) (fun _ h => h.2.2.2) r
theorem rd_node : Reads enc Tryz.prog w base spare held 115 encNd (fun _ => True) := by
  have r := reads_struct4 (enc := enc) (w := w) (base := base) (spare := spare) (held := held) (g0 := Value.string) (g1 := Value.int .i64) (g2 := Value.int .i64) (g3 := Value.int .i64) Tryz.underlying115 zK zK (reads_str Tryz.underlying9) (reads_int Tryz.underlying3) (reads_int Tryz.underlying3) (reads_int Tryz.underlying3)
  exact reads_map (fun a : ByteArray × Int × Int × Int => (⟨a.1, a.2.1, a.2.2.1, a.2.2.2⟩ : Nd)) (fun _ => rfl) (fun _ _ => trivial) r
set_option maxRecDepth 100000 in
theorem open_corpus {r : Reach} {b0 : Nat} {v : Value} {d : DataW H} {p : List MemPlace} (hv : Value.okWide Tryz.prog w r b0 30 v) (h : DataW.Trod enc Tryz.prog w base spare held 30 v d p) :
    ∃ c : Cp, v = cpV c ∧ CpR (fun b => w.heap[b]?) c := by
  obtain ⟨cs, k, rfl, hn, hf⟩ := agg_fields (n := 7) Tryz.underlying30 zK rfl zK hv h
  obtain ⟨u0, y0, c0, t0⟩ := hf 0 _ rfl zO
  obtain ⟨u1, y1, c1, t1⟩ := hf 1 _ rfl zO
  obtain ⟨u2, y2, c2, t2⟩ := hf 2 _ rfl zO
  obtain ⟨u3, y3, c3, t3⟩ := hf 3 _ rfl zO
  obtain ⟨u4, y4, c4, t4⟩ := hf 4 _ rfl zO
  obtain ⟨u5, y5, c5, t5⟩ := hf 5 _ rfl zO
  obtain ⟨u6, y6, c6, t6⟩ := hf 6 _ rfl zO
  obtain ⟨⟨va, att⟩, e0, q0, _, _⟩ := reads_slice zD encAt_len Tryz.underlying22 zK rd_attr _ _ _ t0
  obtain ⟨⟨vt, tk⟩, e1, q1, _, qt⟩ := reads_slice zD encTk_len Tryz.underlying23 zK rd_strs _ _ _ t1
  obtain ⟨⟨vx, tx⟩, e2, q2, _, qx⟩ := reads_slice zD encRg_len Tryz.underlying24 zK rd_text _ _ _ t2
  obtain ⟨⟨vr, rg⟩, e3, q3, _, qr⟩ := reads_slice zD encRg_len Tryz.underlying25 zK rd_region _ _ _ t3
  obtain ⟨⟨vn, nd⟩, e4, q4, _, _⟩ := reads_slice zD encNd_len Tryz.underlying26 zK rd_node _ _ _ t4
  obtain ⟨⟨vh, hd⟩, e5, q5, lh, _⟩ := reads_slice zD encI_len Tryz.underlying27 zK (reads_intI Tryz.underlying3) _ _ _ t5
  obtain ⟨⟨vs, rl⟩, e6, q6, ls, _⟩ := reads_slice zD encT_len Tryz.underlying28 zK (reads_strT Tryz.underlying9) _ _ _ t6
  refine ⟨⟨va, att, vt, tk, vx, tx, vr, rg, vn, nd, vh, hd, vs, rl⟩, ?_, ⟨q0, q1, ⟨q2, qx⟩, ⟨q3, qr⟩, q4, q5, q6, qt, by unfold maxLen at lh; dsimp only at lh ⊢; omega, by unfold maxLen at ls; dsimp only at ls ⊢; omega⟩⟩
  match cs, hn, c0, c1, c2, c3, c4, c5, c6 with
  | [a, b, c, d, e, f, g], _, c0, c1, c2, c3, c4, c5, c6 =>
    simp at c0 c1 c2 c3 c4 c5 c6 e0 e1 e2 e3 e4 e5 e6
    subst c0 c1 c2 c3 c4 c5 c6 e0 e1 e2 e3 e4 e5 e6
    rfl
end

end Go.Proofs.YtecogbhbkccblaaGreatDoor
