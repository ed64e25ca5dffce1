/- huffman: a symbol, decoding.
   huffman: decoding. -/
import Derived.Test.YtecogbhbkccblaaGreatDoorH3
set_option maxRecDepth 4000
set_option maxHeartbeats 40000000
set_option linter.all false
namespace Go.Proofs.YtecogbhbkccblaaGreatDoor
open Go.RowKit


theorem symbol_fn (f : Nat → Nat) (o : List Nat) (tb k0 q c s rb : Nat) (v : Value) (bs pre post : List Bool) (H : Hp) (ht : TabOk H tb f o) (hord : Ord f o) (hf : ∀ s, f s ≤ 15) (hol : o.length ≤ 1000) (hk : k0 < o.length) (hq : f o[k0] = q) (hq1 : 1 ≤ q) (hc : cdO f o k0 = c) (hs : o[k0]? = some s)
    (hv : NSl H .u8 v (packB bs)) (hl : bs.length ≤ 1000000) (hbs : bs = pre ++ (bitsOf c q ++ post)) :
    FnW Tryz.prog 126 #[.pointer (some ⟨tb, 0, none⟩), .pointer (some ⟨rb, 0, none⟩)] H [RdB rb v bs.length pre.length] (fun u H' l' => u = .tuple #[.int .i64 (s : Int), .int .i64 0] ∧ H' = H ∧ l' = [RdB rb v bs.length (pre.length + q)]) := by
  obtain ⟨svv, lg, hsv, hH, hsy, hlg, hlg15⟩ := ht.open
  have hqg : f (o[k0]?.getD 0) = q := by rw [List.getElem?_eq_getElem hk]; exact hq
  have hq15 : q ≤ 15 := by rw [← hq]; exact hf _
  have hbeg := hbegins_fn f o tb k0
  have hlgc : (tbC (fiO f o) svv lg)[0 + 32]? = some (.int .i64 (lg : Int)) := tbC_lg _ hsv lg
  have hlen : bs.length = pre.length + (q + post.length) := by rw [hbs, List.length_append, List.length_append, bitsOf_len]
  have hcl : c < 2 ^ q := by
    have := cdO_lt hord hk
    rw [hqg, hc] at this
    exact this
  have hc15 : c < 32768 := Nat.lt_of_lt_of_le hcl (Nat.pow_le_pow_right zD hq15)
  have hno := fun p (hp : p < q) => read_no hord hk (p := p) (by rw [hqg]; exact hp)
  have hat := read_at hord hk hqg
  rw [hqg, hc] at hno
  rw [hc] at hat
  refine FnW.of_T (vs := [.pointer (some ⟨tb, 0, none⟩), .pointer (some ⟨rb, 0, none⟩)]) Tryz.func126 rfl rfl fun w => ?_
  have h00 : c / 2 ^ (q - 0) = 0 := Nat.div_eq_of_lt hcl
  refine J14 ?_; refine T.loopK [(0, Value.pointer (some { block := tb, off := 0 })), (1, Value.pointer (some { block := rb, off := 0 }))] zq8 (γ := Nat) (fun j => j < q) (fun j => [(7, .int .i64 ((j + 1 : Nat) : Int)), (6, .int .u64 ((c / 2 ^ (q - j) : Nat) : Int))]) (fun j => [RdB rb v bs.length (pre.length + j)]) (fun _ => H) (fun j => q - j) 0 hq1 ⟨rfl, by rw [h00]; rfl, trivial⟩ zq23 rfl ?_
  intro j hj
  have hb1 := rbits_fn rb bs v (pre.length + j) 1 (c.testBit (q - 1 - j)).toNat H hv zO hl (by cases c.testBit (q - 1 - j) <;> decide) (fun i hi => by
    obtain rfl : i = 0 := by omega
    rw [hbs, Nat.add_zero, List.getElem?_append_right zO, Nat.add_sub_cancel_left, List.getElem?_append_left (by rw [bitsOf_len]; exact hj), bitsOf_get hj]
    cases c.testBit (q - 1 - j) <;> rfl) zD
  have hx : c / 2 ^ (q - j) < 32768 := Nat.lt_of_le_of_lt (Nat.div_le_self _ _) hc15
  have hsl : shlI .u64 ((c / 2 ^ (q - j) : Nat) : Int) 1 = ((2 * (c / 2 ^ (q - j)) : Nat) : Int) := by
    have := shl_nat (k := .u64) (a := c / 2 ^ (q - j)) (n := 1) zD zO
    rw [Nat.shiftLeft_eq, Nat.pow_one, Nat.mul_comm] at this
    exact this
  obtain ⟨y, hy⟩ : ∃ y, y = c / 2 ^ (q - (j + 1)) := ⟨_, rfl⟩
  have hor : bits .or .u64 ((2 * (c / 2 ^ (q - j)) : Nat) : Int) ((c.testBit (q - 1 - j)).toNat : Int) = (y : Int) := by
    rw [bor_nat (k := .u64) zO (Nat.lt_of_le_of_lt (Bool.toNat_le _) zD), val_step c q j hj, hy]
  have hbg := hbegins_fn f o tb k0 (j + 1) H ht hord hf hol hk zO
  rw [hq, hc, ← hy] at hbg
  have hyl : y < 32768 := by rw [hy]; exact Nat.lt_of_le_of_lt (Nat.div_le_self _ _) hc15
  obtain ⟨n, hn⟩ : ∃ n, n = j + 1 := ⟨_, rfl⟩
  have hn16 : n < 16 := by omega
  obtain ⟨aj, cj, hsj, hnl⟩ := hsy n hn16
  obtain ⟨m, hm⟩ : ∃ m, m = (syO f o n).length := ⟨_, rfl⟩
  obtain ⟨fi, hfi⟩ : ∃ fi, fi = fiO f o n := ⟨_, rfl⟩
  have hfl := fiO_lt hord hf n
  have hml := syO_len f o n
  have hc1 : (tbC (fiO f o) svv lg)[0 + 16 + (n : Int).toNat * 1]? = some (.slice aj m cj) := by
    rw [show 0 + 16 + (n : Int).toNat * 1 = 16 + n by omega, hm]
    exact tbC_sv _ lg hn16 hsj
  have hc2 : (tbC (fiO f o) svv lg)[0 + 0 + (n : Int).toNat * 1]? = some (.int .u64 (fi : Int)) := by
    rw [show 0 + 0 + (n : Int).toNat * 1 = n by omega, hfi]
    exact tbC_fi _ svv lg hn16
  rw [← hm] at hml hnl
  rw [← hfi] at hfl
  rw [← hn] at hbg hy ⊢
  have hsl := hsl
  have hor := hor
  by_cases hnq : n < q
  · have hn1 := hno n hnq
    rw [← hy, ← hfi, ← hm] at hn1
    by_cases hA : fi ≤ y
    · have hdA : decide ((fi : Int) ≤ (y : Int)) = true := decide_eq_true zO
      have hdB : decide ((y : Int) - (fi : Int) < (m : Int)) = false := decide_eq_false zO
      have hsl := hsl
      have hor := hor
      refine J5 ?_; refine T.callWV Wanted.none rfl rfl hb1 zq1 ?_; refine J17 ?_; refine yq105 ?_; refine sm ?_; refine sv (PV.borR rfl rfl zA) ?_; refine J8 ?_; refine T.callV Wanted.none rfl rfl (hbg) ?_; refine J5 ?_; refine yq70 ?_; refine I3 ?_
      refine I3 ?_; refine yq79 ?_; refine yq14 ?_; refine TQ.pv (PV.move rfl) (Wanted.guard rfl rfl zA) rfl rfl ?_; refine yq74 ?_; refine yq67 ?_; refine TQ.pv (PV.subB rfl rfl zO) (Wanted.guard rfl rfl zA) rfl rfl ?_; refine yq14 ?_; refine yq74 ?_; refine yq67 ?_; refine TQ.pv (PV.lenSl rfl) (Wanted.guard rfl rfl zA) rfl rfl ?_; refine TQ.pv (PV.convB rfl zO) (Wanted.guard rfl rfl zA) rfl rfl ?_; refine yq57 ?_; refine TQ.nil ?_; refine yq6 ?_; refine J7 ?_
      subst hy
      subst hn
      exact T.nextP (j + 1) hnq zO zq8 zq23 rfl
    · have hdA : decide ((fi : Int) ≤ (y : Int)) = false := decide_eq_false zO
      have hsl := hsl
      have hor := hor
      refine J5 ?_; refine T.callWV Wanted.none rfl rfl hb1 zq1 ?_; refine J17 ?_; refine yq105 ?_; refine sm ?_; refine sv (PV.borR rfl rfl zA) ?_; refine J8 ?_; refine T.callV Wanted.none rfl rfl (hbg) ?_; refine J5 ?_; refine yq70 ?_; refine I3 ?_
      refine I3 ?_; refine yq79 ?_; refine yq16 ?_; refine yq16 ?_; refine yq16 ?_; refine yq16 ?_; refine yq16 ?_; refine yq16 ?_; refine yq16 ?_; refine yq16 ?_; refine TQ.pass (Unwanted.guard rfl rfl zA) rfl rfl ?_; refine TQ.pv (PV.pickF rfl zA rfl) Wanted.none rfl rfl ?_; refine TQ.nil ?_; refine J8 ?_
      subst hy
      subst hn
      exact T.nextP (j + 1) hnq zO zq8 zq23 rfl
  · obtain rfl : q = n := by omega
    have hyc : y = c := by rw [hy, Nat.sub_self, Nat.pow_zero, Nat.div_one]
    obtain ⟨a1, a2, a3⟩ := hat
    rw [← hyc, ← hfi] at a1 a2 a3
    rw [hs] at a3
    rw [← hm] at a2
    have hdA : decide ((fi : Int) ≤ (y : Int)) = true := decide_eq_true zO
    have hdB : decide ((y : Int) - (fi : Int) < (m : Int)) = true := decide_eq_true zO
    have hsl := hsl
    have hor := hor
    obtain ⟨b1, off1, rfl, hsub1⟩ := NSl.at hnl a3
    have hsb : (y : Int) - (fi : Int) = ((y - fi : Nat) : Int) := by omega
    obtain ⟨z, hz⟩ : ∃ z, z = y - fi := ⟨_, rfl⟩
    rw [← hz] at hsb hsub1
    have hzm : z < m := by omega
    refine J5 ?_; refine T.callWV Wanted.none rfl rfl hb1 zq1 ?_; refine J17 ?_; refine yq105 ?_; refine sm ?_; refine sv (PV.borR rfl rfl zA) ?_; refine J8 ?_; refine T.callV Wanted.none rfl rfl (hbg) ?_; refine J5 ?_; refine yq70 ?_; refine I3 ?_
    refine I3 ?_; refine yq79 ?_; refine yq14 ?_; refine TQ.pv (PV.move rfl) (Wanted.guard rfl rfl zA) rfl rfl ?_; refine yq74 ?_; refine yq67 ?_; refine TQ.pv (PV.subB rfl rfl zO) (Wanted.guard rfl rfl zA) rfl rfl ?_; refine yq14 ?_; refine yq74 ?_; refine yq67 ?_; refine TQ.pv (PV.lenSl rfl) (Wanted.guard rfl rfl zA) rfl rfl ?_; refine TQ.pv (PV.convB rfl zO) (Wanted.guard rfl rfl zA) rfl rfl ?_; refine yq57 ?_; refine TQ.nil ?_; refine yq9 ?_; refine sq ?_; refine yq70 ?_; refine I5 ?_; refine TQ.pv (PV.load1 rfl zq0 zA) Wanted.none rfl rfl ?_; refine I6 ?_
    refine TQ.pv (PV.load1 rfl zq0 zA) Wanted.none rfl rfl ?_; refine TQ.pv (PV.subB rfl rfl zO) Wanted.none rfl rfl ?_; refine TQ.pv (PV.indexAddr rfl rfl zO) Wanted.none rfl rfl ?_
    rw [hsb]
    refine TQ.pv (PV.loadSub0 rfl zA) Wanted.none rfl rfl ?_; refine I3 ?_
    rw [hn] at *
    exact T.retW (Lv.finW _ zq4 (RV.tmp2 rfl rfl rfl) ⟨rfl, rfl, rfl⟩)

end Go.Proofs.YtecogbhbkccblaaGreatDoor
namespace Go.Proofs.YtecogbhbkccblaaGreatDoor
open Go.RowKit


structure DcG where
  i : Nat
  v : Value
  ls : List (Nat × Obj)
theorem symBits_take (f : Nat → Nat) (o ns : List Nat) {i s : Nat} (h : ns[i]? = some s) : symBits f o ns = symBits f o (ns.take i) ++ (codeBits f o s ++ symBits f o (ns.drop (i + 1))) := by
  have hi := (List.getElem?_eq_some_iff.1 h).1
  have hg := (List.getElem?_eq_some_iff.1 h).2
  have h1 : ns = ns.take i ++ (s :: ns.drop (i + 1)) := by rw [← hg, ← List.drop_eq_getElem_cons hi, List.take_append_drop]
  have h2 : symBits f o ns = symBits f o (ns.take i ++ (s :: ns.drop (i + 1))) := by rw [← h1]
  rw [h2]
  unfold symBits
  rw [List.flatMap_append, List.flatMap_cons]
theorem symBits_succ (f : Nat → Nat) (o ns : List Nat) {i s : Nat} (h : ns[i]? = some s) : (symBits f o (ns.take (i + 1))).length = (symBits f o (ns.take i)).length + f s := by
  have hi := (List.getElem?_eq_some_iff.1 h).1
  have hg := (List.getElem?_eq_some_iff.1 h).2
  rw [List.take_add_one, h]
  unfold symBits
  rw [List.flatMap_append, List.length_append]
  simp only [Option.toList_some, List.flatMap_cons, List.flatMap_nil, List.append_nil, codeBits_len]
theorem hdecode_fn (f : Nat → Nat) (n : Nat) (ns rest : List Nat) (bs : List Bool) (av bv : Value) (H : Hp) (ha : NSl H .i64 av (tabF n f)) (hb : NSl H .u8 bv (packB bs ++ rest)) (hr : rest.length ≤ 10000000) (hc : CodeOk f n) (hl : ns.length ≤ 4096) (hm : ∀ s ∈ ns, s ∈ ordH n f) (hbs : bs = symBits f (ordH n f) ns) : Fn Tryz.prog 72 #[av, bv, .int .i64 (bs.length : Int), .int .i64 (ns.length : Int)] H (fun u H' => ∃ v, u = .tuple #[v, .int .i64 0] ∧ NSl H' .i64 v ns) := by
  have hv := hvalid_fn f n av H ha hc.small hc.le hc.room
  have hbl : bs.length ≤ 61440 := by
    have := symBits_len (f := f) (o := ordH n f) ns (fun s _ => hc.le s)
    rw [hbs]; omega
  have hrd := newReader_fn bs rest bv H hb zO hr
  have htb := fun H1 (h1 : H.le H1) => tableOf_fn f n av H1 (ha.mono h1) hc
  obtain ⟨o, ho⟩ : ∃ o, o = ordH n f := ⟨_, rfl⟩
  have hmm : ∀ s, s ∈ o → s < n ∧ 0 < f s := fun s h => ordH_mem.1 (ho ▸ h)
  have hord := hc.ord
  have hol := ordH_len n f
  have hnn := hc.small
  rw [← ho] at hord hm hol hbs
  have htb : ∀ H1, H.le H1 → Fn Tryz.prog 125 #[av] H1 (fun u H' => ∃ tb, u = .pointer (some ⟨tb, 0, none⟩) ∧ TabOk H' tb f o) := by rw [ho]; exact htb
  obtain ⟨ad, cap, rfl⟩ := ha.len
  obtain ⟨bd, bcap, rfl⟩ := hb.len
  have htl : (tabF n f).length = n := tabF_len n f
  have hd0 : decide ((4096 : Int) < (ns.length : Int)) = false := decide_eq_false zO
  have hd1 : decide ((ns.length : Int) < 0) = false := decide_eq_false zO
  refine Fn.of_T (vs := [.slice ad (tabF n f).length cap, .slice bd (packB bs ++ rest).length bcap, .int .i64 (bs.length : Int), .int .i64 (ns.length : Int)]) Tryz.func72 rfl rfl fun w => ?_; refine J9 ?_; refine T.callV Wanted.none rfl rfl (hv) ?_; refine J10 ?_; refine yq6 ?_; refine J5 ?_; (refine T.callW Wanted.none rfl rfl hrd Pick.nil ?_; rintro _ H1 _ hle1 ⟨_, rb, rv, rfl, rfl, hrv⟩); refine J17 ?_
  (refine T.call Wanted.none rfl rfl (htb H1 hle1) ?_; rintro _ H2 hle2 ⟨tb, rfl, htab⟩); refine J13 ?_
  have hrv2 := hrv.mono hle2
  refine T.loopK [(37, Value.int IntKind.i64 (↑ns.length : Int)), (12, Value.pointer (some { block := tb, off := 0 })), (10, Value.pointer (some { block := rb, off := 0 })), (2, Value.int IntKind.i64 (↑bs.length : Int))] zq8 (γ := DcG) (fun g => g.i ≤ ns.length ∧ NRow 3 .i64 g.v g.ls (ns.take g.i)) (fun g => [(38, .int .i64 (g.i : Int)), (13, g.v)]) (fun g => RdB rb rv bs.length (symBits f o (ns.take g.i)).length :: g.ls) (fun _ => H2) (fun g => ns.length - g.i) ⟨0, .slice none 0 0, []⟩ ⟨Nat.zero_le _, NRow.nil _ _⟩ zq8 zq23 rfl ?_
  rintro ⟨i, gvv, ls⟩ ⟨hi, hrow⟩
  dsimp only at hi hrow ⊢
  by_cases h : i < ns.length
  · obtain ⟨s, hs⟩ : ∃ s, ns[i]? = some s := ⟨_, List.getElem?_eq_getElem h⟩
    have hso := hm s (List.mem_of_getElem? hs)
    obtain ⟨hsn, hs0⟩ := hmm s hso
    have hidx : o.idxOf s < o.length := List.idxOf_lt_length_iff.2 hso
    have hgo := List.getElem_idxOf hidx
    obtain ⟨c, hce⟩ : ∃ c, c = cdO f o (o.idxOf s) := ⟨_, rfl⟩
    have hbb := symBits_take f o ns hs
    rw [← hbs] at hbb
    unfold codeBits at hbb
    rw [← hce] at hbb
    have hsy := symbol_fn f o tb (o.idxOf s) (f s) c s rb rv bs (symBits f o (ns.take i)) (symBits f o (ns.drop (i + 1))) H2 htab hord hc.le zO hidx (by rw [hgo]) zO hce.symm (by rw [List.getElem?_eq_getElem hidx, hgo]) hrv2 zO hbb
    rw [← symBits_succ f o ns hs] at hsy
    obtain ⟨ga, gc, rfl⟩ := hrow.val
    have hd : decide ((i : Int) < (ns.length : Int)) = true := decide_eq_true zO
    have hsn := hc.small
    have hil : (ns.take i).length ≤ 4096 := by rw [List.length_take]; omega
    refine yq31 ?_; refine J7 ?_; refine T.callWV Wanted.none rfl rfl hsy zq1 ?_; refine J17 ?_; (refine T.buildSlice Wanted.none rfl rfl zq11 zX zX ?_; intro b51); (refine T.appendP (lv := ls) Wanted.none rfl rfl rfl hrow (Src.cells (m := 1) (ys := nV .i64 [s]) (.own zq2) rfl rfl) (nV_one _ _) zO zq1 ?_; intro v52 lv52 hv52 _; have hv52 := NRow.app hv52; obtain ⟨ad52, cap52, rfl⟩ := hv52.val); refine J7 ?_
    exact T.nextP ⟨i + 1, .slice ad52 (ns.take i ++ [s]).length cap52, lv52⟩ ⟨by dsimp only; omega, by dsimp only; rw [List.take_add_one, hs]; exact hv52⟩ zE zq8 zq23 rfl
  · have hd : decide ((i : Int) < (ns.length : Int)) = false := decide_eq_false zO
    obtain rfl : i = ns.length := by omega
    rw [List.take_length, ← hbs]
    rw [List.take_length] at hrow
    have hps := pos_fn rb rv bs.length bs.length H2
    refine yq44 ?_; refine J5 ?_; refine T.callWV Wanted.none rfl rfl hps zq1 ?_; refine J11 ?_; refine T.freezeP hrow zq1 ?_
    intro H3 hle3 hs3
    exact T.retF (Lv.fin (RV.tmp2 rfl rfl rfl) ⟨gvv, rfl, hs3⟩)

end Go.Proofs.YtecogbhbkccblaaGreatDoor
