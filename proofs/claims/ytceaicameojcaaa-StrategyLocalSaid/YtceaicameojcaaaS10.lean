/- strategy: Choose, the reference's Choose. -/
import Derived.Test.YtceaicameojcaaaS9
namespace Go.Proofs.Ytceaicameojcaaa
open Go.RowKit

section
variable {P : Program} {X : Cx} {e : Env} {l : List (Nat × Obj)} {H : Hp} {D : List Deferred} {k : List It} {all : Array Oper} {rest : List Oper} {dst : Option Tmp} {ty : TypeId} {pos : String} {after : Array Edge} {gd : Option (Nat × Bool)}
theorem PV.makeFuncB {f : Go.Fn} {x : Operand} {v : Value} (hx : evE e x = some v) : PV P e l H ⟨dst, .makeFunc f #[x] #[], ty, pos, after, gd⟩ (.func f #[v] #[]) := PV.mk fun X D a w ha hw => by
  simp [execOp, Instr.makeFunc, ha.eval hx]
theorem T.callFB {d : Nat} {f : FuncId} [hE : Ent P f] {x : Operand} {xs : List Operand} {ts : Array TypeId} {vs first : List Value} {R : Value → Hp → Prop} (hw : Wanted e all ⟨some d, .call ⟨.value x, xs.toArray, ts⟩, ty, pos, after, gd⟩) (hN : Nat.blt d X.N = true)
    (hx : evE e x = some (.func (.func f) first.toArray #[])) (hv : evL e xs = some vs) (hf : Fn P f (first ++ vs).toArray H R)
    (h : ∀ v H', H.le H' → R v H' → T P X ((d, v) :: e) l H' D (.ops all rest :: k)) :
    T P X e l H D (.ops all (⟨some d, .call ⟨.value x, xs.toArray, ts⟩, ty, pos, after, gd⟩ :: rest) :: k) :=
  T.enter (d := d) hw rfl hN (fun a w ha => by
    have := evL_map ha xs vs hv
    have hE' := hE.h (first ++ vs).toArray w
    simp [execOp, resolve, ha.eval hx, Deferred.ofValue, invoke, List.map_toArray, this]
    simpa using hE') hf h
end
/-! ### what a call of Choose returns -/
theorem errM_good {k : Int} {l : List Mt} {ea er eo : Int} (h : goodM k l) : errM k l ea er eo = 0 := by
  obtain ⟨h1, h2, h3⟩ := h
  unfold errM
  rw [if_neg (by omega), if_neg (by simpa using h2), if_neg (by simpa using h3)]
theorem errM_arg {k : Int} {l : List Mt} {ea er eo : Int} (h : k < 0 ∨ 3 < k) : errM k l ea er eo = ea ∧ ¬ goodM k l := by
  unfold errM
  rw [if_pos h]
  exact ⟨rfl, fun hg => by have := hg.1; omega⟩
theorem errM_range {k : Int} {l : List Mt} {ea er eo : Int} (h : 0 ≤ k ∧ k ≤ 3) {m : Mt} (hm : m ∈ l) (hb : ¬ okS (spm m)) : errM k l ea er eo = er ∧ ¬ goodM k l := by
  have hn : ¬ ∀ m ∈ l, okS (spm m) := fun h => hb (h m hm)
  unfold errM
  rw [if_neg (by omega), if_pos hn]
  exact ⟨rfl, fun hg => hn hg.2.1⟩
theorem errM_order {k : Int} {l : List Mt} {ea er eo : Int} (h : 0 ≤ k ∧ k ≤ 3) (h2 : ∀ m ∈ l, okS (spm m)) (h3 : ¬ ascM l) : errM k l ea er eo = eo ∧ ¬ goodM k l := by
  unfold errM
  rw [if_neg (by omega), if_neg (by simpa using h2), if_pos h3]
  exact ⟨rfl, fun hg => h3 hg.2.2⟩
def ChooseR (k : Int) (l : List Mt) (u : Value) (H' : Hp) : Prop := ∃ v' a, u = .tuple #[v', .int .i64 (errM k l 1 8 6)] ∧ MtL H' v' a ∧ a.map keyM = (if goodM k l then chooseM k l else []).map keyM
theorem ChooseR.err {k : Int} {l : List Mt} {H' : Hp} {e : Int} (h : errM k l 1 8 6 = e ∧ ¬ goodM k l) : ChooseR k l (.tuple #[.slice none 0 0, .int .i64 e]) H' :=
  ⟨_, [], by rw [h.1], ⟨SlR.empty, by simp⟩, by rw [if_neg h.2]⟩
theorem ChooseR.ok {k : Int} {l a : List Mt} {H' : Hp} {v : Value} (hg : goodM k l) (hv : MtL H' v a) (ha : a.map keyM = (chooseM k l).map keyM) : ChooseR k l (.tuple #[v, .int .i64 0]) H' :=
  ⟨_, a, by rw [errM_good hg], hv, by rw [if_pos hg]; exact ha⟩
theorem cmpL_lt {a b : List Int} : cmpL a b < 0 ↔ ltK a b := Iff.rfl
theorem flatM_len (l : List Mt) : (l.flatMap encM).length = l.length * 3 := flat_len encM_len l
abbrev MtV (v : Value) (lv : List (Nat × Obj)) (l : List Mt) : Prop := Vec 38 3 v lv l.length (l.flatMap encM)
theorem MtV.snoc {v : Value} {lv : List (Nat × Obj)} {l : List Mt} {x : Mt} (h : Vec 38 3 v lv (l.length + 1) (l.flatMap encM ++ encM x)) : MtV v lv (l ++ [x]) := by
  unfold MtV
  rw [List.length_append, List.flatMap_append, List.flatMap_singleton]
  exact h
theorem one_encM {H : Hp} {m : Mt} (h : LabOk H m) : ∀ v ∈ encM m, v.oneCell' = true := by
  obtain ⟨am, cm, hmv⟩ := h.1.len
  intro v hv
  simp only [encM, List.mem_cons, List.not_mem_nil, or_false] at hv
  rcases hv with rfl | rfl | rfl
  · rfl
  · rfl
  · rw [hmv]; rfl
theorem pick_take {c : List Sp} {l : List Mt} {i : Nat} {m : Mt} (hx : l[i]? = some m) : pickM c (l.take (i + 1)) = if spm m ∈ c then pickM c (l.take i) ++ [m] else pickM c (l.take i) := by
  unfold pickM
  rw [List.take_add_one, hx, Option.toList_some, List.filter_append]
  by_cases h : spm m ∈ c
  · rw [if_pos h]; simp [h]
  · rw [if_neg h]; simp [h]
theorem each2_fn (l : List Sp) (v : Value) (H : Hp) (hv : SpL H v l) : Fn Try.prog 24 #[v] H (fun u H' => SpL H' u l) := by
  refine Fn.of_T (vs := [v]) Try.func24 rfl rfl fun w => ?_
  refine T.seq ?_
  refine T.region ?_
  refine T.pv (PV.assign rfl) Wanted.none rfl rfl ?_
  refine T.opsNil ?_
  refine T.seq ?_
  refine T.region ?_
  refine T.pv (PV.move rfl) Wanted.none rfl rfl ?_
  refine T.pv (PV.assign rfl) Wanted.none rfl rfl ?_
  refine T.opsNil ?_
  exact T.retF (Lv.fin (RV.tmp rfl rfl) hv)
def methF (k : Int) : FuncId := if k = 0 then 24 else if k = 1 then 25 else if k = 2 then 26 else 27
theorem meth_fn (k : Int) (l : List Sp) (v : Value) (H : Hp) (hk : 0 ≤ k ∧ k ≤ 3) (hv : SpL H v l) (hl : l.length ≤ 1000000) (hs : l.Pairwise ltC) (hok : ∀ s ∈ l, 0 ≤ s.1 ∧ s.1 < s.2) : Fn Try.prog (methF k) #[v] H (fun u H' => SpL H' u (chosenL k l)) := by
  rcases (by omega : k = 0 ∨ k = 1 ∨ k = 2 ∨ k = 3) with rfl | rfl | rfl | rfl
  · exact each2_fn l v H hv
  · exact shortest_fn l v H hv hl hs hok
  · exact longest_fn l v H hv hl hs hok
  · exact traditional_fn l v H hv hl
theorem meth_ent (k : Int) (hk : 0 ≤ k ∧ k ≤ 3) : Ent Try.prog (methF k) := by
  rcases (by omega : k = 0 ∨ k = 1 ∨ k = 2 ∨ k = 3) with rfl | rfl | rfl | rfl
  · exact (inferInstance : Ent Try.prog 24)
  · exact (inferInstance : Ent Try.prog 25)
  · exact (inferInstance : Ent Try.prog 26)
  · exact (inferInstance : Ent Try.prog 27)
theorem meth_load (k : Int) (v : Value) (hk : 0 ≤ k ∧ k ≤ 3) : [Value.func (.func 24) #[v] #[], .func (.func 25) #[v] #[], .func (.func 26) #[v] #[], .func (.func 27) #[v] #[]][0 + k.toNat * 1]? = some (.func (.func (methF k)) #[v] #[]) := by
  rcases (by omega : k = 0 ∨ k = 1 ∨ k = 2 ∨ k = 3) with rfl | rfl | rfl | rfl <;> rfl
structure ChG where
  j : Nat
  a : List Mt
  v : Value
  lv : List (Nat × Obj)
  H : Hp
set_option maxHeartbeats 4000000 in
theorem choose_fn (k : Int) (l : List Mt) (v : Value) (H : Hp) (hv : MtL H v l) (hl : l.length ≤ 1000000) : Fn Try.prog 12 #[.int .i64 k, v] H (ChooseR k l) := by
  obtain ⟨ad, cap, rfl⟩ := hv.1.len
  refine Fn.of_T (vs := [.int .i64 k, .slice ad l.length cap]) Try.func12 rfl rfl fun w => ?_
  by_cases hk : 0 ≤ k ∧ k ≤ 3
  rotate_left
  · have herr := errM_arg (k := k) (l := l) (ea := 1) (er := 8) (eo := 6) (by omega)
    by_cases h0 : k < 0
    · refine T.seq ?_
      refine T.region ?_
      refine T.pv (PV.assign rfl) Wanted.none rfl rfl ?_
      refine T.pv (PV.assign rfl) Wanted.none rfl rfl ?_
      refine T.opsNil ?_
      refine T.seq ?_
      refine T.seq ?_
      refine T.region ?_
      refine T.pv (PV.move rfl) Wanted.none rfl rfl ?_
      refine T.pv (PV.lss rfl rfl) Wanted.none rfl rfl ?_
      refine T.pv (PV.move rfl) Wanted.none rfl rfl ?_
      refine T.setT (d := 19) rfl (by omega) ?_
      refine T.pass (Unwanted.guard rfl rfl rfl) rfl rfl ?_
      refine T.pass (Unwanted.guard rfl rfl rfl) rfl rfl ?_
      refine T.pv (PV.pickT rfl rfl rfl) Wanted.none rfl rfl ?_
      refine T.opsNil ?_
      refine T.condT rfl rfl ?_
      refine T.seq ?_
      refine T.region ?_
      refine T.pv (PV.assign rfl) Wanted.none rfl rfl ?_
      refine T.pv (PV.assign rfl) Wanted.none rfl rfl ?_
      refine T.opsNil ?_
      exact T.retF (Lv.fin (RV.tmp2 rfl rfl rfl) (ChooseR.err herr))
    · refine T.seq ?_
      refine T.region ?_
      refine T.pv (PV.assign rfl) Wanted.none rfl rfl ?_
      refine T.pv (PV.assign rfl) Wanted.none rfl rfl ?_
      refine T.opsNil ?_
      refine T.seq ?_
      refine T.seq ?_
      refine T.region ?_
      refine T.pv (PV.move rfl) Wanted.none rfl rfl ?_
      refine T.pv (PV.lss rfl rfl) Wanted.none rfl rfl ?_
      refine T.pv (PV.move rfl) Wanted.none rfl rfl ?_
      refine T.setF (d := 19) rfl (by omega) ?_
      refine T.pv (PV.move rfl) (Wanted.guard rfl rfl rfl) rfl rfl ?_
      refine T.pv (PV.gtr rfl rfl) (Wanted.guard rfl rfl rfl) rfl rfl ?_
      refine T.pv (PV.pickF rfl rfl rfl) Wanted.none rfl rfl ?_
      refine T.opsNil ?_
      refine T.condT rfl (decide_eq_true (by omega)) ?_
      refine T.seq ?_
      refine T.region ?_
      refine T.pv (PV.assign rfl) Wanted.none rfl rfl ?_
      refine T.pv (PV.assign rfl) Wanted.none rfl rfl ?_
      refine T.opsNil ?_
      exact T.retF (Lv.fin (RV.tmp2 rfl rfl rfl) (ChooseR.err herr))
  obtain ⟨hk0, hk3⟩ := hk
  refine T.seq ?_
  refine T.region ?_
  refine T.pv (PV.assign rfl) Wanted.none rfl rfl ?_
  refine T.pv (PV.assign rfl) Wanted.none rfl rfl ?_
  refine T.opsNil ?_
  refine T.seq ?_
  refine T.seq ?_
  refine T.region ?_
  refine T.pv (PV.move rfl) Wanted.none rfl rfl ?_
  refine T.pv (PV.lss rfl rfl) Wanted.none rfl rfl ?_
  refine T.pv (PV.move rfl) Wanted.none rfl rfl ?_
  refine T.setF (d := 19) rfl (by omega) ?_
  refine T.pv (PV.move rfl) (Wanted.guard rfl rfl rfl) rfl rfl ?_
  refine T.pv (PV.gtr rfl rfl) (Wanted.guard rfl rfl rfl) rfl rfl ?_
  refine T.pv (PV.pickF rfl rfl rfl) Wanted.none rfl rfl ?_
  refine T.opsNil ?_
  refine T.condF rfl (decide_eq_false (by omega)) ?_
  refine T.skip ?_
  refine T.seq ?_
  refine T.seq ?_
  refine T.region ?_
  refine T.pv (PV.move rfl) Wanted.none rfl rfl ?_
  refine T.pv (PV.lenSl rfl) Wanted.none rfl rfl ?_
  refine T.pv (PV.move rfl) Wanted.none rfl rfl ?_
  refine T.opsNil ?_
  refine T.block ?_
  refine T.loop (γ := Nat) (fun i => i ≤ l.length ∧ ∀ m ∈ l.take i, okS (spm m))
    (fun i => [(25, .int .i64 (i : Int)), (24, .int .i64 (l.length : Int)), (23, .slice ad l.length cap), (0, .int .i64 k), (1, .slice ad l.length cap)])
    (fun _ => []) (fun _ => H) (fun i => l.length - i) 0 ⟨by simp, by simp⟩ (by repeat (first | exact trivial | refine And.intro rfl ?_)) (by repeat (first | exact List.Sublist.slnil | exact List.nil_sublist _ | exact List.Sublist.refl _ | exact List.sublist_append_left _ [] | apply List.Sublist.cons_cons | apply List.Sublist.cons | refine List.Sublist.append_left ?_ _ | refine List.sublist_append_of_sublist_right ?_)) rfl ?_
  rintro i ⟨i1, i2⟩
  by_cases hi : i < l.length
  · obtain ⟨m, hx⟩ : ∃ x, l[i]? = some x := ⟨_, List.getElem?_eq_getElem hi⟩
    obtain ⟨b, off, rfl, hsub⟩ := hv.1.matchAt hx
    have hmem := List.mem_of_getElem? hx
    obtain ⟨am, cm, hmv⟩ := (hv.2 m hmem).1.len
    rw [hmv] at hsub
    by_cases h1 : m.b < m.e
    · by_cases h2 : 0 ≤ m.b
      · refine T.seq ?_
        refine T.region ?_
        refine T.pv (PV.lss rfl rfl) Wanted.none rfl rfl ?_
        refine T.opsNil ?_
        refine T.seq ?_
        refine T.condT rfl (decide_eq_true (by omega)) ?_
        refine T.skip ?_
        refine T.seq ?_
        refine T.block ?_
        refine T.seq ?_
        refine T.region ?_
        refine T.pv (PV.indexAddr rfl rfl (by omega)) Wanted.none rfl rfl ?_
        refine T.pv (PV.loadSubAll rfl (by assumption) (by exact rfl)) Wanted.none rfl rfl ?_
        (refine T.alloc Wanted.none rfl ?_; intro b7)
        refine T.storeA Wanted.none rfl rfl (by repeat (first | exact trivial | refine And.intro rfl ?_)) (by exact rfl) (by repeat (first | exact Upd.head | apply Upd.tail | apply Upd.app)) (by repeat (first | exact Splice.nil | apply Splice.cons | apply Splice.skip)) ?_
        refine T.opsNil ?_
        refine T.seq ?_
        refine T.region ?_
        refine T.pv (PV.fieldAddr rfl) Wanted.none rfl rfl ?_
        refine T.pv (PV.load1 rfl (by first | exact .fro (by assumption) | exact .own (by repeat (first | exact List.Mem.head _ | apply List.Mem.tail | apply List.mem_append_right))) rfl) Wanted.none rfl rfl ?_
        refine T.pv (PV.fieldAddr rfl) Wanted.none rfl rfl ?_
        refine T.pv (PV.load1 rfl (by first | exact .fro (by assumption) | exact .own (by repeat (first | exact List.Mem.head _ | apply List.Mem.tail | apply List.mem_append_right))) rfl) Wanted.none rfl rfl ?_
        refine T.pv (PV.geq rfl rfl) Wanted.none rfl rfl ?_
        refine T.pv (PV.move rfl) Wanted.none rfl rfl ?_
        refine T.setF (d := 34) rfl (by omega) ?_
        refine T.pv (PV.fieldAddr rfl) (Wanted.guard rfl rfl rfl) rfl rfl ?_
        refine T.pv (PV.load1 rfl (by first | exact .fro (by assumption) | exact .own (by repeat (first | exact List.Mem.head _ | apply List.Mem.tail | apply List.mem_append_right))) rfl) (Wanted.guard rfl rfl rfl) rfl rfl ?_
        refine T.pv (PV.lss rfl rfl) (Wanted.guard rfl rfl rfl) rfl rfl ?_
        refine T.pv (PV.pickF rfl rfl rfl) Wanted.none rfl rfl ?_
        refine T.opsNil ?_
        refine T.condF rfl (decide_eq_false (by omega)) ?_
        refine T.skip ?_
        refine T.blkEnd ?_
        refine T.region ?_
        refine T.pv (PV.add rfl rfl (by omega)) Wanted.none rfl rfl ?_
        refine T.pv (PV.move rfl) Wanted.none rfl rfl ?_
        refine T.opsNil ?_
        refine T.next (i + 1) ⟨by omega, fun y hy => ?_⟩ (by omega) (by repeat (first | exact trivial | refine And.intro rfl ?_)) (by repeat (first | exact List.Sublist.slnil | exact List.nil_sublist _ | exact List.Sublist.refl _ | exact List.sublist_append_left _ [] | apply List.Sublist.cons_cons | apply List.Sublist.cons | refine List.Sublist.append_left ?_ _ | refine List.sublist_append_of_sublist_right ?_)) rfl
        rw [List.take_add_one, hx] at hy
        rcases List.mem_append.1 hy with h | h
        · exact i2 y h
        · simp at h; subst h; exact ⟨h2, h1⟩
      · have herr := errM_range (k := k) (ea := 1) (er := 8) (eo := 6) ⟨hk0, hk3⟩ hmem (fun h => h2 h.1)
        refine T.seq ?_
        refine T.region ?_
        refine T.pv (PV.lss rfl rfl) Wanted.none rfl rfl ?_
        refine T.opsNil ?_
        refine T.seq ?_
        refine T.condT rfl (decide_eq_true (by omega)) ?_
        refine T.skip ?_
        refine T.seq ?_
        refine T.block ?_
        refine T.seq ?_
        refine T.region ?_
        refine T.pv (PV.indexAddr rfl rfl (by omega)) Wanted.none rfl rfl ?_
        refine T.pv (PV.loadSubAll rfl (by assumption) (by exact rfl)) Wanted.none rfl rfl ?_
        (refine T.alloc Wanted.none rfl ?_; intro b7)
        refine T.storeA Wanted.none rfl rfl (by repeat (first | exact trivial | refine And.intro rfl ?_)) (by exact rfl) (by repeat (first | exact Upd.head | apply Upd.tail | apply Upd.app)) (by repeat (first | exact Splice.nil | apply Splice.cons | apply Splice.skip)) ?_
        refine T.opsNil ?_
        refine T.seq ?_
        refine T.region ?_
        refine T.pv (PV.fieldAddr rfl) Wanted.none rfl rfl ?_
        refine T.pv (PV.load1 rfl (by first | exact .fro (by assumption) | exact .own (by repeat (first | exact List.Mem.head _ | apply List.Mem.tail | apply List.mem_append_right))) rfl) Wanted.none rfl rfl ?_
        refine T.pv (PV.fieldAddr rfl) Wanted.none rfl rfl ?_
        refine T.pv (PV.load1 rfl (by first | exact .fro (by assumption) | exact .own (by repeat (first | exact List.Mem.head _ | apply List.Mem.tail | apply List.mem_append_right))) rfl) Wanted.none rfl rfl ?_
        refine T.pv (PV.geq rfl rfl) Wanted.none rfl rfl ?_
        refine T.pv (PV.move rfl) Wanted.none rfl rfl ?_
        refine T.setF (d := 34) rfl (by omega) ?_
        refine T.pv (PV.fieldAddr rfl) (Wanted.guard rfl rfl rfl) rfl rfl ?_
        refine T.pv (PV.load1 rfl (by first | exact .fro (by assumption) | exact .own (by repeat (first | exact List.Mem.head _ | apply List.Mem.tail | apply List.mem_append_right))) rfl) (Wanted.guard rfl rfl rfl) rfl rfl ?_
        refine T.pv (PV.lss rfl rfl) (Wanted.guard rfl rfl rfl) rfl rfl ?_
        refine T.pv (PV.pickF rfl rfl rfl) Wanted.none rfl rfl ?_
        refine T.opsNil ?_
        refine T.condT rfl (decide_eq_true (by omega)) ?_
        refine T.seq ?_
        refine T.region ?_
        refine T.pv (PV.assign rfl) Wanted.none rfl rfl ?_
        refine T.pv (PV.assign rfl) Wanted.none rfl rfl ?_
        refine T.opsNil ?_
        exact T.retF (Lv.fin (RV.tmp2 rfl rfl rfl) (ChooseR.err herr))
    · have herr := errM_range (k := k) (ea := 1) (er := 8) (eo := 6) ⟨hk0, hk3⟩ hmem (fun h => h1 h.2)
      by_cases h2 : 0 ≤ m.b
      · refine T.seq ?_
        refine T.region ?_
        refine T.pv (PV.lss rfl rfl) Wanted.none rfl rfl ?_
        refine T.opsNil ?_
        refine T.seq ?_
        refine T.condT rfl (decide_eq_true (by omega)) ?_
        refine T.skip ?_
        refine T.seq ?_
        refine T.block ?_
        refine T.seq ?_
        refine T.region ?_
        refine T.pv (PV.indexAddr rfl rfl (by omega)) Wanted.none rfl rfl ?_
        refine T.pv (PV.loadSubAll rfl (by assumption) (by exact rfl)) Wanted.none rfl rfl ?_
        (refine T.alloc Wanted.none rfl ?_; intro b7)
        refine T.storeA Wanted.none rfl rfl (by repeat (first | exact trivial | refine And.intro rfl ?_)) (by exact rfl) (by repeat (first | exact Upd.head | apply Upd.tail | apply Upd.app)) (by repeat (first | exact Splice.nil | apply Splice.cons | apply Splice.skip)) ?_
        refine T.opsNil ?_
        refine T.seq ?_
        refine T.region ?_
        refine T.pv (PV.fieldAddr rfl) Wanted.none rfl rfl ?_
        refine T.pv (PV.load1 rfl (by first | exact .fro (by assumption) | exact .own (by repeat (first | exact List.Mem.head _ | apply List.Mem.tail | apply List.mem_append_right))) rfl) Wanted.none rfl rfl ?_
        refine T.pv (PV.fieldAddr rfl) Wanted.none rfl rfl ?_
        refine T.pv (PV.load1 rfl (by first | exact .fro (by assumption) | exact .own (by repeat (first | exact List.Mem.head _ | apply List.Mem.tail | apply List.mem_append_right))) rfl) Wanted.none rfl rfl ?_
        refine T.pv (PV.geq rfl rfl) Wanted.none rfl rfl ?_
        refine T.pv (PV.move rfl) Wanted.none rfl rfl ?_
        refine T.setT (d := 34) rfl (by omega) ?_
        refine T.pass (Unwanted.guard rfl rfl rfl) rfl rfl ?_
        refine T.pass (Unwanted.guard rfl rfl rfl) rfl rfl ?_
        refine T.pass (Unwanted.guard rfl rfl rfl) rfl rfl ?_
        refine T.pv (PV.pickT rfl rfl rfl) Wanted.none rfl rfl ?_
        refine T.opsNil ?_
        refine T.condT rfl rfl ?_
        refine T.seq ?_
        refine T.region ?_
        refine T.pv (PV.assign rfl) Wanted.none rfl rfl ?_
        refine T.pv (PV.assign rfl) Wanted.none rfl rfl ?_
        refine T.opsNil ?_
        exact T.retF (Lv.fin (RV.tmp2 rfl rfl rfl) (ChooseR.err herr))
      · refine T.seq ?_
        refine T.region ?_
        refine T.pv (PV.lss rfl rfl) Wanted.none rfl rfl ?_
        refine T.opsNil ?_
        refine T.seq ?_
        refine T.condT rfl (decide_eq_true (by omega)) ?_
        refine T.skip ?_
        refine T.seq ?_
        refine T.block ?_
        refine T.seq ?_
        refine T.region ?_
        refine T.pv (PV.indexAddr rfl rfl (by omega)) Wanted.none rfl rfl ?_
        refine T.pv (PV.loadSubAll rfl (by assumption) (by exact rfl)) Wanted.none rfl rfl ?_
        (refine T.alloc Wanted.none rfl ?_; intro b7)
        refine T.storeA Wanted.none rfl rfl (by repeat (first | exact trivial | refine And.intro rfl ?_)) (by exact rfl) (by repeat (first | exact Upd.head | apply Upd.tail | apply Upd.app)) (by repeat (first | exact Splice.nil | apply Splice.cons | apply Splice.skip)) ?_
        refine T.opsNil ?_
        refine T.seq ?_
        refine T.region ?_
        refine T.pv (PV.fieldAddr rfl) Wanted.none rfl rfl ?_
        refine T.pv (PV.load1 rfl (by first | exact .fro (by assumption) | exact .own (by repeat (first | exact List.Mem.head _ | apply List.Mem.tail | apply List.mem_append_right))) rfl) Wanted.none rfl rfl ?_
        refine T.pv (PV.fieldAddr rfl) Wanted.none rfl rfl ?_
        refine T.pv (PV.load1 rfl (by first | exact .fro (by assumption) | exact .own (by repeat (first | exact List.Mem.head _ | apply List.Mem.tail | apply List.mem_append_right))) rfl) Wanted.none rfl rfl ?_
        refine T.pv (PV.geq rfl rfl) Wanted.none rfl rfl ?_
        refine T.pv (PV.move rfl) Wanted.none rfl rfl ?_
        refine T.setT (d := 34) rfl (by omega) ?_
        refine T.pass (Unwanted.guard rfl rfl rfl) rfl rfl ?_
        refine T.pass (Unwanted.guard rfl rfl rfl) rfl rfl ?_
        refine T.pass (Unwanted.guard rfl rfl rfl) rfl rfl ?_
        refine T.pv (PV.pickT rfl rfl rfl) Wanted.none rfl rfl ?_
        refine T.opsNil ?_
        refine T.condT rfl rfl ?_
        refine T.seq ?_
        refine T.region ?_
        refine T.pv (PV.assign rfl) Wanted.none rfl rfl ?_
        refine T.pv (PV.assign rfl) Wanted.none rfl rfl ?_
        refine T.opsNil ?_
        exact T.retF (Lv.fin (RV.tmp2 rfl rfl rfl) (ChooseR.err herr))
  rw [List.take_of_length_le (by omega)] at i2
  refine T.seq ?_
  refine T.region ?_
  refine T.pv (PV.lss rfl rfl) Wanted.none rfl rfl ?_
  refine T.opsNil ?_
  refine T.seq ?_
  refine T.condF rfl (decide_eq_false (by omega)) ?_
  refine T.exit rfl ?_
  refine T.seq ?_
  refine T.seq ?_
  refine T.region ?_
  refine T.pv (PV.assign rfl) Wanted.none rfl rfl ?_
  refine T.opsNil ?_
  refine T.block ?_
  refine T.loop (γ := Nat) (fun j => ∀ (i : Nat) (a b : Mt), i < j → l[i]? = some a → l[i + 1]? = some b → ltK (keyM a) (keyM b))
    (fun j => [(8, .int .i64 ((j + 1 : Nat) : Int)), (0, .int .i64 k), (1, .slice ad l.length cap)])
    (fun _ => []) (fun _ => H) (fun j => l.length - j) 0 (fun i a b h => by omega) (by repeat (first | exact trivial | refine And.intro rfl ?_)) (by repeat (first | exact List.Sublist.slnil | exact List.nil_sublist _ | exact List.Sublist.refl _ | exact List.sublist_append_left _ [] | apply List.Sublist.cons_cons | apply List.Sublist.cons | refine List.Sublist.append_left ?_ _ | refine List.sublist_append_of_sublist_right ?_)) rfl ?_
  intro j j2
  by_cases hj : j + 1 < l.length
  · obtain ⟨y, hy⟩ : ∃ x, l[j + 1]? = some x := ⟨_, List.getElem?_eq_getElem hj⟩
    obtain ⟨x, hx⟩ : ∃ x, l[j]? = some x := ⟨_, List.getElem?_eq_getElem (by omega)⟩
    obtain ⟨b, off, rfl, hsub1⟩ := hv.1.matchAt hx
    obtain ⟨b', off', e, hsub2⟩ := hv.1.matchAt hy
    injection e with e
    injection e with e1 e2
    subst e1 e2
    have hsub3 : SubC H b (off + (((j + 1 : Nat) : Int) - 1).toNat * 3) [.int .i64 x.b, .int .i64 x.e, x.v] := by
      rwa [show (((j + 1 : Nat) : Int) - 1).toNat = j by omega]
    clear hsub1
    have hcall := matchCompare_fn x y H (hv.2 x (List.mem_of_getElem? hx)) (hv.2 y (List.mem_of_getElem? hy))
    unfold mtV at hcall
    by_cases hc : cmpL (keyM x) (keyM y) < 0
    · refine T.seq ?_
      refine T.seq ?_
      refine T.region ?_
      refine T.pv (PV.move rfl) Wanted.none rfl rfl ?_
      refine T.pv (PV.move rfl) Wanted.none rfl rfl ?_
      refine T.pv (PV.lenSl rfl) Wanted.none rfl rfl ?_
      refine T.pv (PV.lss rfl rfl) Wanted.none rfl rfl ?_
      refine T.opsNil ?_
      refine T.condT rfl (decide_eq_true (by omega)) ?_
      refine T.skip ?_
      refine T.seq ?_
      refine T.block ?_
      refine T.seq ?_
      refine T.regionQ (by kernel_rfl) ?_
      refine TQ.pv (PV.move rfl) Wanted.none rfl rfl ?_
      refine TQ.pv (PV.move rfl) Wanted.none rfl rfl ?_
      refine TQ.pv (PV.sub rfl rfl (by omega)) Wanted.none rfl rfl ?_
      refine TQ.pv (PV.indexAddr rfl rfl (by omega)) Wanted.none rfl rfl ?_
      refine TQ.pv (PV.loadSubAll rfl (by assumption) (by exact rfl)) Wanted.none rfl rfl ?_
      refine TQ.pv (PV.move rfl) Wanted.none rfl rfl ?_
      refine TQ.pv (PV.move rfl) Wanted.none rfl rfl ?_
      refine TQ.pv (PV.indexAddr rfl rfl (by omega)) Wanted.none rfl rfl ?_
      refine TQ.pv (PV.loadSubAll rfl (by assumption) (by exact rfl)) Wanted.none rfl rfl ?_
      refine TQ.callV Wanted.none rfl rfl (hcall) ?_
      refine TQ.pv (PV.geq rfl rfl) Wanted.none rfl rfl ?_
      refine TQ.nil ?_
      refine T.condF rfl (decide_eq_false (by omega)) ?_
      refine T.skip ?_
      refine T.blkEnd ?_
      refine T.region ?_
      refine T.pv (PV.move rfl) Wanted.none rfl rfl ?_
      refine T.pv (PV.add rfl rfl (by omega)) Wanted.none rfl rfl ?_
      refine T.pv (PV.assign rfl) Wanted.none rfl rfl ?_
      refine T.opsNil ?_
      refine T.next (j + 1) (fun i a b h ha hb => ?_) (by omega) (by repeat (first | exact trivial | refine And.intro rfl ?_)) (by repeat (first | exact List.Sublist.slnil | exact List.nil_sublist _ | exact List.Sublist.refl _ | exact List.sublist_append_left _ [] | apply List.Sublist.cons_cons | apply List.Sublist.cons | refine List.Sublist.append_left ?_ _ | refine List.sublist_append_of_sublist_right ?_)) rfl
      rcases Nat.lt_or_ge i j with h' | h'
      · exact j2 i a b h' ha hb
      · have : i = j := by omega
        subst this
        rw [hx] at ha; rw [hy] at hb
        injection ha with ha; injection hb with hb
        subst ha hb; exact hc
    · have herr := errM_order (k := k) (l := l) (ea := 1) (er := 8) (eo := 6) ⟨hk0, hk3⟩ i2 (fun h => hc (ascM_adj h hx hy))
      refine T.seq ?_
      refine T.seq ?_
      refine T.region ?_
      refine T.pv (PV.move rfl) Wanted.none rfl rfl ?_
      refine T.pv (PV.move rfl) Wanted.none rfl rfl ?_
      refine T.pv (PV.lenSl rfl) Wanted.none rfl rfl ?_
      refine T.pv (PV.lss rfl rfl) Wanted.none rfl rfl ?_
      refine T.opsNil ?_
      refine T.condT rfl (decide_eq_true (by omega)) ?_
      refine T.skip ?_
      refine T.seq ?_
      refine T.block ?_
      refine T.seq ?_
      refine T.regionQ (by kernel_rfl) ?_
      refine TQ.pv (PV.move rfl) Wanted.none rfl rfl ?_
      refine TQ.pv (PV.move rfl) Wanted.none rfl rfl ?_
      refine TQ.pv (PV.sub rfl rfl (by omega)) Wanted.none rfl rfl ?_
      refine TQ.pv (PV.indexAddr rfl rfl (by omega)) Wanted.none rfl rfl ?_
      refine TQ.pv (PV.loadSubAll rfl (by assumption) (by exact rfl)) Wanted.none rfl rfl ?_
      refine TQ.pv (PV.move rfl) Wanted.none rfl rfl ?_
      refine TQ.pv (PV.move rfl) Wanted.none rfl rfl ?_
      refine TQ.pv (PV.indexAddr rfl rfl (by omega)) Wanted.none rfl rfl ?_
      refine TQ.pv (PV.loadSubAll rfl (by assumption) (by exact rfl)) Wanted.none rfl rfl ?_
      refine TQ.callV Wanted.none rfl rfl (hcall) ?_
      refine TQ.pv (PV.geq rfl rfl) Wanted.none rfl rfl ?_
      refine TQ.nil ?_
      refine T.condT rfl (decide_eq_true (by omega)) ?_
      refine T.seq ?_
      refine T.region ?_
      refine T.pv (PV.assign rfl) Wanted.none rfl rfl ?_
      refine T.pv (PV.assign rfl) Wanted.none rfl rfl ?_
      refine T.opsNil ?_
      exact T.retF (Lv.fin (RV.tmp2 rfl rfl rfl) (ChooseR.err herr))
  have hgood : goodM k l := ⟨⟨hk0, hk3⟩, i2, ascM_of_adj l fun i a b ha hb => j2 i a b (by have := (List.getElem?_eq_some_iff.1 hb).1; omega) ha hb⟩
  have hsl := spM_len l
  clear j2
  refine T.seq ?_
  refine T.seq ?_
  refine T.region ?_
  refine T.pv (PV.move rfl) Wanted.none rfl rfl ?_
  refine T.pv (PV.move rfl) Wanted.none rfl rfl ?_
  refine T.pv (PV.lenSl rfl) Wanted.none rfl rfl ?_
  refine T.pv (PV.lss rfl rfl) Wanted.none rfl rfl ?_
  refine T.opsNil ?_
  refine T.condF rfl (decide_eq_false (by omega)) ?_
  refine T.exit rfl ?_
  refine T.seq ?_
  refine T.region ?_
  refine T.pv (PV.move rfl) Wanted.none rfl rfl ?_
  refine T.call Wanted.none rfl rfl (spans_fn l _ H hv hl) ?_
  intro u9 H9 hle9 hu9
  have hs9 := spM_sorted l
  have hok9 := spM_ok hgood.2.1
  refine T.pv (PV.assign rfl) Wanted.none rfl rfl ?_
  refine T.opsNil ?_
  refine T.seq ?_
  refine T.region ?_
  refine T.pv (PV.move rfl) Wanted.none rfl rfl ?_
  refine T.pv (PV.makeFuncB rfl) Wanted.none rfl rfl ?_
  refine T.pv (PV.move rfl) Wanted.none rfl rfl ?_
  refine T.pv (PV.makeFuncB rfl) Wanted.none rfl rfl ?_
  refine T.pv (PV.move rfl) Wanted.none rfl rfl ?_
  refine T.pv (PV.makeFuncB rfl) Wanted.none rfl rfl ?_
  refine T.pv (PV.move rfl) Wanted.none rfl rfl ?_
  refine T.pv (PV.makeFuncB rfl) Wanted.none rfl rfl ?_
  (refine T.buildSlice Wanted.none rfl rfl (by repeat (first | exact FillAll.nil | (apply FillAll.cons; (first | exact CellsR.one rfl | exact CellsR.agg); exact rfl))) (by exact rfl) (by exact rfl) ?_; intro b67)
  refine T.pv (PV.assign rfl) Wanted.none rfl rfl ?_
  refine T.opsNil ?_
  refine T.seq ?_
  refine T.region ?_
  refine T.pv (PV.move rfl) Wanted.none rfl rfl ?_
  refine T.pv (PV.move rfl) Wanted.none rfl rfl ?_
  refine T.pv (PV.indexAddr rfl rfl (by omega)) Wanted.none rfl rfl ?_
  have hml := meth_load k u9 ⟨hk0, hk3⟩
  have hme := meth_ent k ⟨hk0, hk3⟩
  refine T.pv (PV.load1 rfl (.own (by repeat (first | exact List.Mem.head _ | apply List.Mem.tail | apply List.mem_append_right))) hml) Wanted.none rfl rfl ?_
  skip
  refine T.callFB (vs := []) (first := [_]) Wanted.none rfl rfl rfl (meth_fn k (spM l) u9 H9 ⟨hk0, hk3⟩ hu9 (by omega) hs9 hok9) ?_
  intro u11 H11 hle11 hu11
  have hcl := (chosen_sub k (spM l)).length_le
  have hcs := hs9.sublist (chosen_sub k (spM l))
  have hle := hle9.trans hle11
  have hfin : ∀ {v' : Value} {a : List Mt} {H' : Hp}, MtL H' v' a → a.map keyM = (pickM (chosenL k (spM l)) l).map keyM → ChooseR k l (.tuple #[v', .int .i64 0]) H' := fun h1 h2 => ChooseR.ok hgood h1 h2
  generalize chosenL k (spM l) = c at hu11 hcl hcs hfin
  refine T.pv (PV.assign rfl) Wanted.none rfl rfl ?_
  refine T.opsNil ?_
  refine T.seq ?_
  refine T.region ?_
  refine T.pv (PV.assign rfl) Wanted.none rfl rfl ?_
  refine T.opsNil ?_
  refine T.seq ?_
  refine T.seq ?_
  refine T.region ?_
  refine T.pv (PV.move rfl) Wanted.none rfl rfl ?_
  refine T.pv (PV.lenSl rfl) Wanted.none rfl rfl ?_
  refine T.pv (PV.move rfl) Wanted.none rfl rfl ?_
  refine T.opsNil ?_
  refine T.block ?_
  refine T.loop (γ := ChG) (fun g => g.j ≤ l.length ∧ H11.le g.H ∧ MtV g.v g.lv g.a ∧ (∀ m ∈ g.a, LabOk g.H m) ∧ g.a.map keyM = (pickM c (l.take g.j)).map keyM)
    (fun g => [(75, .int .i64 (g.j : Int)), (74, .int .i64 (l.length : Int)), (73, .slice ad l.length cap), (12, g.v), (11, u11)])
    (fun g => g.lv) (fun g => g.H) (fun g => l.length - g.j) ⟨0, [], .slice none 0 0, [], H11⟩ ⟨by simp, Hp.le.refl _, Vec.nil 38 3, by simp, rfl⟩ (by repeat (first | exact trivial | refine And.intro rfl ?_)) (by repeat (first | exact List.Sublist.slnil | exact List.nil_sublist _ | exact List.Sublist.refl _ | exact List.sublist_append_left _ [] | apply List.Sublist.cons_cons | apply List.Sublist.cons | refine List.Sublist.append_left ?_ _ | refine List.sublist_append_of_sublist_right ?_)) rfl ?_
  rintro ⟨j, a, u12, lv, Hj⟩ ⟨j1, j2, j3, j4, j5⟩
  dsimp only at j1 j2 j3 j4 j5 ⊢
  have hal : a.length ≤ l.length := by
    have h1 := congrArg List.length j5
    rw [List.length_map, List.length_map] at h1
    have h2 : (pickM c (l.take j)).length ≤ (l.take j).length := List.length_filter_le _ _
    have h3 : (l.take j).length ≤ l.length := List.length_take_le' _ _
    omega
  by_cases hj : j < l.length
  · obtain ⟨m, hx⟩ : ∃ x, l[j]? = some x := ⟨_, List.getElem?_eq_getElem hj⟩
    have hvj := hv.mono (hle.trans j2)
    obtain ⟨b, off, rfl, hsub⟩ := hvj.1.matchAt hx
    have hlab := hvj.2 m (List.mem_of_getElem? hx)
    obtain ⟨am, cm, hmv⟩ := hlab.1.len
    have hcall := span_fn m Hj
    unfold mtV spV at hcall
    rw [hmv] at hcall hsub
    have hpt := pick_take (c := c) hx
    refine T.seq ?_
    refine T.region ?_
    refine T.pv (PV.lss rfl rfl) Wanted.none rfl rfl ?_
    refine T.opsNil ?_
    refine T.seq ?_
    refine T.condT rfl (decide_eq_true (by omega)) ?_
    refine T.skip ?_
    refine T.seq ?_
    refine T.block ?_
    refine T.seq ?_
    refine T.region ?_
    refine T.pv (PV.indexAddr rfl rfl (by omega)) Wanted.none rfl rfl ?_
    refine T.pv (PV.loadSubAll rfl (by assumption) (by exact rfl)) Wanted.none rfl rfl ?_
    (refine T.alloc Wanted.none rfl ?_; intro b14)
    refine T.storeA Wanted.none rfl rfl (by repeat (first | exact trivial | refine And.intro rfl ?_)) (by exact rfl) (by repeat (first | exact Upd.head | apply Upd.tail | apply Upd.app)) (by repeat (first | exact Splice.nil | apply Splice.cons | apply Splice.skip)) ?_
    refine T.opsNil ?_
    refine T.seq ?_
    refine T.region ?_
    refine T.pv (PV.move rfl) Wanted.none rfl rfl ?_
    refine T.pv (PV.loadAll rfl (by first | exact .fro (by assumption) | exact .own (by repeat (first | exact List.Mem.head _ | apply List.Mem.tail | apply List.mem_append_right))) (by exact rfl)) Wanted.none rfl rfl ?_
    refine T.callV Wanted.none rfl rfl (hcall) ?_
    refine T.call Wanted.none rfl rfl (search_fn c (spm m) u11 Hj (hu11.mono j2) (by omega) hcs) ?_
    rintro u83 H83 hle83 ⟨iz, rfl⟩
    by_cases hin : spm m ∈ c
    · rw [if_pos hin] at hpt
      rw [decide_eq_true hin]
      refine T.pv (PV.move rfl) Wanted.none rfl rfl ?_
      refine T.pv (PV.extract rfl rfl) Wanted.none rfl rfl ?_
      refine T.pv (PV.extract rfl rfl) Wanted.none rfl rfl ?_
      refine T.pv (PV.assign rfl) Wanted.none rfl rfl ?_
      refine T.pv (PV.assign rfl) Wanted.none rfl rfl ?_
      refine T.opsNil ?_
      refine T.seq ?_
      refine T.region ?_
      refine T.pv (PV.move rfl) Wanted.none rfl rfl ?_
      refine T.opsNil ?_
      refine T.condT rfl rfl ?_
      refine T.regionOr (lc := [(b14, .cells #[.int .i64 m.b, .int .i64 m.e, .slice am m.ls.length cm] 38 (0, 0))]) (by repeat (first | exact List.Sublist.slnil | exact List.nil_sublist _ | exact List.Sublist.refl _ | exact List.sublist_append_left _ [] | apply List.Sublist.cons_cons | apply List.Sublist.cons | refine List.Sublist.append_left ?_ _ | refine List.sublist_append_of_sublist_right ?_)) (by kernel_rfl) ?_
      refine TO.take 0 rfl (by kernel_rfl) (by kernel_rfl) (by kernel_rfl) (PV.move rfl) Wanted.none rfl rfl ?_
      refine TO.take 1 rfl (by kernel_rfl) (by kernel_rfl) (by kernel_rfl) (PV.fieldAddr rfl) Wanted.none rfl rfl ?_
      refine TO.take 2 rfl (by kernel_rfl) (by kernel_rfl) (by kernel_rfl) (PV.load1 rfl (by first | exact .fro (by assumption) | exact .own (by repeat (first | exact List.Mem.head _ | apply List.Mem.tail | apply List.mem_append_right))) rfl) Wanted.none rfl rfl ?_
      refine TO.take 3 rfl (by kernel_rfl) (by kernel_rfl) (by kernel_rfl) (PV.fieldAddr rfl) Wanted.none rfl rfl ?_
      refine TO.take 4 rfl (by kernel_rfl) (by kernel_rfl) (by kernel_rfl) (PV.load1 rfl (by first | exact .fro (by assumption) | exact .own (by repeat (first | exact List.Mem.head _ | apply List.Mem.tail | apply List.mem_append_right))) rfl) Wanted.none rfl rfl ?_
      refine TO.take 5 rfl (by kernel_rfl) (by kernel_rfl) (by kernel_rfl) (PV.fieldAddr rfl) Wanted.none rfl rfl ?_
      refine TO.take 6 rfl (by kernel_rfl) (by kernel_rfl) (by kernel_rfl) (PV.load1 rfl (by first | exact .fro (by assumption) | exact .own (by repeat (first | exact List.Mem.head _ | apply List.Mem.tail | apply List.mem_append_right))) rfl) Wanted.none rfl rfl ?_
      refine TO.step 7 rfl (by kernel_rfl) (by repeat (first | exact List.Sublist.slnil | exact List.nil_sublist _ | exact List.Sublist.refl _ | exact List.sublist_append_left _ [] | apply List.Sublist.cons_cons | apply List.Sublist.cons | refine List.Sublist.append_left ?_ _ | refine List.sublist_append_of_sublist_right ?_)) (by first | exact Hp.le.refl _ | assumption | exact Hp.le.trans (by assumption) (by assumption)) ?_
      have hlab83 := hlab.mono hle83
      rw [LabOk, hmv] at hlab83
      refine T.call Wanted.none rfl rfl (clone_fn m.ls _ H83 hlab83.1 (by have := hlab83.2; omega)) ?_
      intro v' H' hle' hv'
      obtain ⟨a', c', rfl⟩ := hv'.len
      have hlab' : LabOk H' ⟨m.b, m.e, .slice a' m.ls.length c', m.ls⟩ := ⟨hv', hlab.2⟩
      refine T.opsNil ?_
      refine TO.back ?_
      refine TO.take 8 rfl (by kernel_rfl) (by kernel_rfl) (by kernel_rfl) (PV.build rfl (by repeat (first | exact FillR.nil | (apply FillR.cons rfl; (first | exact CellsR.one rfl | exact CellsR.agg); rfl; repeat (first | exact Splice.nil | apply Splice.cons | apply Splice.skip))))) Wanted.none rfl rfl ?_
      refine TO.step 9 rfl (by kernel_rfl) (by repeat (first | exact List.Sublist.slnil | exact List.nil_sublist _ | exact List.Sublist.refl _ | exact List.sublist_append_left _ [] | apply List.Sublist.cons_cons | apply List.Sublist.cons | refine List.Sublist.append_left ?_ _ | refine List.sublist_append_of_sublist_right ?_)) (by first | exact Hp.le.refl _ | assumption | exact Hp.le.trans (by assumption) (by assumption)) ?_
      (refine T.buildSlice Wanted.none rfl rfl (by repeat (first | exact FillAll.nil | (apply FillAll.cons; (first | exact CellsR.one rfl | exact CellsR.agg); exact rfl))) (by exact rfl) (by exact rfl) ?_; intro b96)
      refine T.opsNil ?_
      refine TO.back ?_
      refine TO.step 10 rfl (by kernel_rfl) (by repeat (first | exact List.Sublist.slnil | exact List.nil_sublist _ | exact List.Sublist.refl _ | exact List.sublist_append_left _ [] | apply List.Sublist.cons_cons | apply List.Sublist.cons | refine List.Sublist.append_left ?_ _ | refine List.sublist_append_of_sublist_right ?_)) (by first | exact Hp.le.refl _ | assumption | exact Hp.le.trans (by assumption) (by assumption)) ?_
      refine T.appendE [_, _] (lv := lv) Wanted.none rfl rfl rfl j3 (Src.cells (m := 1) (ys := encM ⟨m.b, m.e, .slice a' m.ls.length c', m.ls⟩) (.own (by repeat (first | exact List.Mem.head _ | apply List.Mem.tail | apply List.mem_append_right))) rfl rfl) (one_encM hlab') (by omega) ?_
      intro v2 lv2 hv2 _
      refine T.opsNil ?_
      refine TO.back ?_
      refine TO.take 11 rfl (by kernel_rfl) (by kernel_rfl) (by kernel_rfl) (PV.assign rfl) Wanted.none rfl rfl ?_
      refine TO.done (by kernel_rfl) (by repeat (first | exact List.Sublist.slnil | exact List.nil_sublist _ | exact List.Sublist.refl _ | exact List.sublist_append_left _ [] | apply List.Sublist.cons_cons | apply List.Sublist.cons | refine List.Sublist.append_left ?_ _ | refine List.sublist_append_of_sublist_right ?_)) (by first | exact Hp.le.refl _ | assumption | exact Hp.le.trans (by assumption) (by assumption)) ?_
      refine T.blkEnd ?_
      refine T.region ?_
      refine T.pv (PV.add rfl rfl (by omega)) Wanted.none rfl rfl ?_
      refine T.pv (PV.move rfl) Wanted.none rfl rfl ?_
      refine T.opsNil ?_
      refine T.next ⟨j + 1, a ++ [⟨m.b, m.e, .slice a' m.ls.length c', m.ls⟩], v2, lv2, H'⟩ ⟨by dsimp only; omega, (j2.trans hle83).trans hle', MtV.snoc hv2, fun y hy => ?_, ?_⟩ (by dsimp only; omega) (by repeat (first | exact trivial | refine And.intro rfl ?_)) (by repeat (first | exact List.Sublist.slnil | exact List.nil_sublist _ | exact List.Sublist.refl _ | exact List.sublist_append_left _ [] | apply List.Sublist.cons_cons | apply List.Sublist.cons | refine List.Sublist.append_left ?_ _ | refine List.sublist_append_of_sublist_right ?_)) rfl
      · rcases List.mem_append.1 hy with h | h
        · exact (j4 y h).mono (hle83.trans hle')
        · rw [List.mem_singleton.1 h]; exact hlab'
      · dsimp only
        rw [hpt, List.map_append, List.map_append, j5]; rfl
    · rw [if_neg hin] at hpt
      rw [decide_eq_false hin]
      refine T.pv (PV.move rfl) Wanted.none rfl rfl ?_
      refine T.pv (PV.extract rfl rfl) Wanted.none rfl rfl ?_
      refine T.pv (PV.extract rfl rfl) Wanted.none rfl rfl ?_
      refine T.pv (PV.assign rfl) Wanted.none rfl rfl ?_
      refine T.pv (PV.assign rfl) Wanted.none rfl rfl ?_
      refine T.opsNil ?_
      refine T.seq ?_
      refine T.region ?_
      refine T.pv (PV.move rfl) Wanted.none rfl rfl ?_
      refine T.opsNil ?_
      refine T.condF rfl rfl ?_
      refine T.skip ?_
      refine T.blkEnd ?_
      refine T.region ?_
      refine T.pv (PV.add rfl rfl (by omega)) Wanted.none rfl rfl ?_
      refine T.pv (PV.move rfl) Wanted.none rfl rfl ?_
      refine T.opsNil ?_
      refine T.next ⟨j + 1, a, u12, lv, H83⟩ ⟨by dsimp only; omega, j2.trans hle83, j3, fun y hy => (j4 y hy).mono hle83, ?_⟩ (by dsimp only; omega) (by repeat (first | exact trivial | refine And.intro rfl ?_)) (by repeat (first | exact List.Sublist.slnil | exact List.nil_sublist _ | exact List.Sublist.refl _ | exact List.sublist_append_left _ [] | apply List.Sublist.cons_cons | apply List.Sublist.cons | refine List.Sublist.append_left ?_ _ | refine List.sublist_append_of_sublist_right ?_)) rfl
      dsimp only
      rw [hpt, j5]
  · rw [List.take_of_length_le (by omega)] at j5
    refine T.seq ?_
    refine T.region ?_
    refine T.pv (PV.lss rfl rfl) Wanted.none rfl rfl ?_
    refine T.opsNil ?_
    refine T.seq ?_
    refine T.condF rfl (decide_eq_false (by omega)) ?_
    refine T.exit rfl ?_
    refine T.seq ?_
    refine T.region ?_
    refine T.pv (PV.move rfl) Wanted.none rfl rfl ?_
    refine T.pv (PV.assign rfl) Wanted.none rfl rfl ?_
    refine T.pv (PV.assign rfl) Wanted.none rfl rfl ?_
    refine T.opsNil ?_
    exact T.retF (Vec.freezeLv (l' := []) j3 (by rw [List.append_nil]; exact List.Sublist.refl _) fun H' hleF hsl => Lv.fin (RV.tmp2 rfl rfl rfl) (hfin ⟨hsl, fun m hm => (j4 m hm).mono hleF⟩ j5))
set_option maxHeartbeats 4000000 in
theorem refChoose_fn (k : Int) (l : List Mt) (v : Value) (H : Hp) (hv : MtL H v l) (hl : l.length ≤ 1000000) : Fn Try.prog 13 #[.int .i64 k, v] H (ChooseR k l) := by
  obtain ⟨ad, cap, rfl⟩ := hv.1.len
  refine Fn.of_T (vs := [.int .i64 k, .slice ad l.length cap]) Try.func13 rfl rfl fun w => ?_
  by_cases hk : 0 ≤ k ∧ k ≤ 3
  rotate_left
  · have herr := errM_arg (k := k) (l := l) (ea := 1) (er := 8) (eo := 6) (by omega)
    by_cases h0 : k < 0
    · refine T.seq ?_
      refine T.region ?_
      refine T.pv (PV.assign rfl) Wanted.none rfl rfl ?_
      refine T.pv (PV.assign rfl) Wanted.none rfl rfl ?_
      refine T.opsNil ?_
      refine T.seq ?_
      refine T.seq ?_
      refine T.region ?_
      refine T.pv (PV.move rfl) Wanted.none rfl rfl ?_
      refine T.pv (PV.lss rfl rfl) Wanted.none rfl rfl ?_
      refine T.pv (PV.move rfl) Wanted.none rfl rfl ?_
      refine T.setT (d := 17) rfl (by omega) ?_
      refine T.pass (Unwanted.guard rfl rfl rfl) rfl rfl ?_
      refine T.pass (Unwanted.guard rfl rfl rfl) rfl rfl ?_
      refine T.pv (PV.pickT rfl rfl rfl) Wanted.none rfl rfl ?_
      refine T.opsNil ?_
      refine T.condT rfl rfl ?_
      refine T.seq ?_
      refine T.region ?_
      refine T.pv (PV.assign rfl) Wanted.none rfl rfl ?_
      refine T.pv (PV.assign rfl) Wanted.none rfl rfl ?_
      refine T.opsNil ?_
      exact T.retF (Lv.fin (RV.tmp2 rfl rfl rfl) (ChooseR.err herr))
    · refine T.seq ?_
      refine T.region ?_
      refine T.pv (PV.assign rfl) Wanted.none rfl rfl ?_
      refine T.pv (PV.assign rfl) Wanted.none rfl rfl ?_
      refine T.opsNil ?_
      refine T.seq ?_
      refine T.seq ?_
      refine T.region ?_
      refine T.pv (PV.move rfl) Wanted.none rfl rfl ?_
      refine T.pv (PV.lss rfl rfl) Wanted.none rfl rfl ?_
      refine T.pv (PV.move rfl) Wanted.none rfl rfl ?_
      refine T.setF (d := 17) rfl (by omega) ?_
      refine T.pv (PV.move rfl) (Wanted.guard rfl rfl rfl) rfl rfl ?_
      refine T.pv (PV.gtr rfl rfl) (Wanted.guard rfl rfl rfl) rfl rfl ?_
      refine T.pv (PV.pickF rfl rfl rfl) Wanted.none rfl rfl ?_
      refine T.opsNil ?_
      refine T.condT rfl (decide_eq_true (by omega)) ?_
      refine T.seq ?_
      refine T.region ?_
      refine T.pv (PV.assign rfl) Wanted.none rfl rfl ?_
      refine T.pv (PV.assign rfl) Wanted.none rfl rfl ?_
      refine T.opsNil ?_
      exact T.retF (Lv.fin (RV.tmp2 rfl rfl rfl) (ChooseR.err herr))
  obtain ⟨hk0, hk3⟩ := hk
  refine T.seq ?_
  refine T.region ?_
  refine T.pv (PV.assign rfl) Wanted.none rfl rfl ?_
  refine T.pv (PV.assign rfl) Wanted.none rfl rfl ?_
  refine T.opsNil ?_
  refine T.seq ?_
  refine T.seq ?_
  refine T.region ?_
  refine T.pv (PV.move rfl) Wanted.none rfl rfl ?_
  refine T.pv (PV.lss rfl rfl) Wanted.none rfl rfl ?_
  refine T.pv (PV.move rfl) Wanted.none rfl rfl ?_
  refine T.setF (d := 17) rfl (by omega) ?_
  refine T.pv (PV.move rfl) (Wanted.guard rfl rfl rfl) rfl rfl ?_
  refine T.pv (PV.gtr rfl rfl) (Wanted.guard rfl rfl rfl) rfl rfl ?_
  refine T.pv (PV.pickF rfl rfl rfl) Wanted.none rfl rfl ?_
  refine T.opsNil ?_
  refine T.condF rfl (decide_eq_false (by omega)) ?_
  refine T.skip ?_
  refine T.seq ?_
  refine T.seq ?_
  refine T.region ?_
  refine T.pv (PV.move rfl) Wanted.none rfl rfl ?_
  refine T.pv (PV.lenSl rfl) Wanted.none rfl rfl ?_
  refine T.pv (PV.move rfl) Wanted.none rfl rfl ?_
  refine T.opsNil ?_
  refine T.block ?_
  refine T.loop (γ := Nat) (fun i => i ≤ l.length ∧ ∀ m ∈ l.take i, okS (spm m))
    (fun i => [(23, .int .i64 (i : Int)), (22, .int .i64 (l.length : Int)), (21, .slice ad l.length cap), (0, .int .i64 k), (1, .slice ad l.length cap)])
    (fun _ => []) (fun _ => H) (fun i => l.length - i) 0 ⟨by simp, by simp⟩ (by repeat (first | exact trivial | refine And.intro rfl ?_)) (by repeat (first | exact List.Sublist.slnil | exact List.nil_sublist _ | exact List.Sublist.refl _ | exact List.sublist_append_left _ [] | apply List.Sublist.cons_cons | apply List.Sublist.cons | refine List.Sublist.append_left ?_ _ | refine List.sublist_append_of_sublist_right ?_)) rfl ?_
  rintro i ⟨i1, i2⟩
  by_cases hi : i < l.length
  · obtain ⟨m, hx⟩ : ∃ x, l[i]? = some x := ⟨_, List.getElem?_eq_getElem hi⟩
    obtain ⟨b, off, rfl, hsub⟩ := hv.1.matchAt hx
    have hmem := List.mem_of_getElem? hx
    obtain ⟨am, cm, hmv⟩ := (hv.2 m hmem).1.len
    rw [hmv] at hsub
    by_cases h1 : m.b < m.e
    · by_cases h2 : 0 ≤ m.b
      · refine T.seq ?_
        refine T.region ?_
        refine T.pv (PV.lss rfl rfl) Wanted.none rfl rfl ?_
        refine T.opsNil ?_
        refine T.seq ?_
        refine T.condT rfl (decide_eq_true (by omega)) ?_
        refine T.skip ?_
        refine T.seq ?_
        refine T.block ?_
        refine T.seq ?_
        refine T.region ?_
        refine T.pv (PV.indexAddr rfl rfl (by omega)) Wanted.none rfl rfl ?_
        refine T.pv (PV.loadSubAll rfl (by assumption) (by exact rfl)) Wanted.none rfl rfl ?_
        (refine T.alloc Wanted.none rfl ?_; intro b7)
        refine T.storeA Wanted.none rfl rfl (by repeat (first | exact trivial | refine And.intro rfl ?_)) (by exact rfl) (by repeat (first | exact Upd.head | apply Upd.tail | apply Upd.app)) (by repeat (first | exact Splice.nil | apply Splice.cons | apply Splice.skip)) ?_
        refine T.opsNil ?_
        refine T.seq ?_
        refine T.region ?_
        refine T.pv (PV.fieldAddr rfl) Wanted.none rfl rfl ?_
        refine T.pv (PV.load1 rfl (by first | exact .fro (by assumption) | exact .own (by repeat (first | exact List.Mem.head _ | apply List.Mem.tail | apply List.mem_append_right))) rfl) Wanted.none rfl rfl ?_
        refine T.pv (PV.lss rfl rfl) Wanted.none rfl rfl ?_
        refine T.pv (PV.move rfl) Wanted.none rfl rfl ?_
        refine T.setF (d := 30) rfl (by omega) ?_
        refine T.pv (PV.fieldAddr rfl) (Wanted.guard rfl rfl rfl) rfl rfl ?_
        refine T.pv (PV.load1 rfl (by first | exact .fro (by assumption) | exact .own (by repeat (first | exact List.Mem.head _ | apply List.Mem.tail | apply List.mem_append_right))) rfl) (Wanted.guard rfl rfl rfl) rfl rfl ?_
        refine T.pv (PV.fieldAddr rfl) (Wanted.guard rfl rfl rfl) rfl rfl ?_
        refine T.pv (PV.load1 rfl (by first | exact .fro (by assumption) | exact .own (by repeat (first | exact List.Mem.head _ | apply List.Mem.tail | apply List.mem_append_right))) rfl) (Wanted.guard rfl rfl rfl) rfl rfl ?_
        refine T.pv (PV.geq rfl rfl) (Wanted.guard rfl rfl rfl) rfl rfl ?_
        refine T.pv (PV.pickF rfl rfl rfl) Wanted.none rfl rfl ?_
        refine T.opsNil ?_
        refine T.condF rfl (decide_eq_false (by omega)) ?_
        refine T.skip ?_
        refine T.blkEnd ?_
        refine T.region ?_
        refine T.pv (PV.add rfl rfl (by omega)) Wanted.none rfl rfl ?_
        refine T.pv (PV.move rfl) Wanted.none rfl rfl ?_
        refine T.opsNil ?_
        refine T.next (i + 1) ⟨by omega, fun y hy => ?_⟩ (by omega) (by repeat (first | exact trivial | refine And.intro rfl ?_)) (by repeat (first | exact List.Sublist.slnil | exact List.nil_sublist _ | exact List.Sublist.refl _ | exact List.sublist_append_left _ [] | apply List.Sublist.cons_cons | apply List.Sublist.cons | refine List.Sublist.append_left ?_ _ | refine List.sublist_append_of_sublist_right ?_)) rfl
        rw [List.take_add_one, hx] at hy
        rcases List.mem_append.1 hy with h | h
        · exact i2 y h
        · simp at h; subst h; exact ⟨h2, h1⟩
      · have herr := errM_range (k := k) (ea := 1) (er := 8) (eo := 6) ⟨hk0, hk3⟩ hmem (fun h => h2 h.1)
        refine T.seq ?_
        refine T.region ?_
        refine T.pv (PV.lss rfl rfl) Wanted.none rfl rfl ?_
        refine T.opsNil ?_
        refine T.seq ?_
        refine T.condT rfl (decide_eq_true (by omega)) ?_
        refine T.skip ?_
        refine T.seq ?_
        refine T.block ?_
        refine T.seq ?_
        refine T.region ?_
        refine T.pv (PV.indexAddr rfl rfl (by omega)) Wanted.none rfl rfl ?_
        refine T.pv (PV.loadSubAll rfl (by assumption) (by exact rfl)) Wanted.none rfl rfl ?_
        (refine T.alloc Wanted.none rfl ?_; intro b7)
        refine T.storeA Wanted.none rfl rfl (by repeat (first | exact trivial | refine And.intro rfl ?_)) (by exact rfl) (by repeat (first | exact Upd.head | apply Upd.tail | apply Upd.app)) (by repeat (first | exact Splice.nil | apply Splice.cons | apply Splice.skip)) ?_
        refine T.opsNil ?_
        refine T.seq ?_
        refine T.region ?_
        refine T.pv (PV.fieldAddr rfl) Wanted.none rfl rfl ?_
        refine T.pv (PV.load1 rfl (by first | exact .fro (by assumption) | exact .own (by repeat (first | exact List.Mem.head _ | apply List.Mem.tail | apply List.mem_append_right))) rfl) Wanted.none rfl rfl ?_
        refine T.pv (PV.lss rfl rfl) Wanted.none rfl rfl ?_
        refine T.pv (PV.move rfl) Wanted.none rfl rfl ?_
        refine T.setT (d := 30) rfl (by omega) ?_
        refine T.pass (Unwanted.guard rfl rfl rfl) rfl rfl ?_
        refine T.pass (Unwanted.guard rfl rfl rfl) rfl rfl ?_
        refine T.pass (Unwanted.guard rfl rfl rfl) rfl rfl ?_
        refine T.pass (Unwanted.guard rfl rfl rfl) rfl rfl ?_
        refine T.pass (Unwanted.guard rfl rfl rfl) rfl rfl ?_
        refine T.pv (PV.pickT rfl rfl rfl) Wanted.none rfl rfl ?_
        refine T.opsNil ?_
        refine T.condT rfl rfl ?_
        refine T.seq ?_
        refine T.region ?_
        refine T.pv (PV.assign rfl) Wanted.none rfl rfl ?_
        refine T.pv (PV.assign rfl) Wanted.none rfl rfl ?_
        refine T.opsNil ?_
        exact T.retF (Lv.fin (RV.tmp2 rfl rfl rfl) (ChooseR.err herr))
    · have herr := errM_range (k := k) (ea := 1) (er := 8) (eo := 6) ⟨hk0, hk3⟩ hmem (fun h => h1 h.2)
      by_cases h2 : 0 ≤ m.b
      · refine T.seq ?_
        refine T.region ?_
        refine T.pv (PV.lss rfl rfl) Wanted.none rfl rfl ?_
        refine T.opsNil ?_
        refine T.seq ?_
        refine T.condT rfl (decide_eq_true (by omega)) ?_
        refine T.skip ?_
        refine T.seq ?_
        refine T.block ?_
        refine T.seq ?_
        refine T.region ?_
        refine T.pv (PV.indexAddr rfl rfl (by omega)) Wanted.none rfl rfl ?_
        refine T.pv (PV.loadSubAll rfl (by assumption) (by exact rfl)) Wanted.none rfl rfl ?_
        (refine T.alloc Wanted.none rfl ?_; intro b7)
        refine T.storeA Wanted.none rfl rfl (by repeat (first | exact trivial | refine And.intro rfl ?_)) (by exact rfl) (by repeat (first | exact Upd.head | apply Upd.tail | apply Upd.app)) (by repeat (first | exact Splice.nil | apply Splice.cons | apply Splice.skip)) ?_
        refine T.opsNil ?_
        refine T.seq ?_
        refine T.region ?_
        refine T.pv (PV.fieldAddr rfl) Wanted.none rfl rfl ?_
        refine T.pv (PV.load1 rfl (by first | exact .fro (by assumption) | exact .own (by repeat (first | exact List.Mem.head _ | apply List.Mem.tail | apply List.mem_append_right))) rfl) Wanted.none rfl rfl ?_
        refine T.pv (PV.lss rfl rfl) Wanted.none rfl rfl ?_
        refine T.pv (PV.move rfl) Wanted.none rfl rfl ?_
        refine T.setF (d := 30) rfl (by omega) ?_
        refine T.pv (PV.fieldAddr rfl) (Wanted.guard rfl rfl rfl) rfl rfl ?_
        refine T.pv (PV.load1 rfl (by first | exact .fro (by assumption) | exact .own (by repeat (first | exact List.Mem.head _ | apply List.Mem.tail | apply List.mem_append_right))) rfl) (Wanted.guard rfl rfl rfl) rfl rfl ?_
        refine T.pv (PV.fieldAddr rfl) (Wanted.guard rfl rfl rfl) rfl rfl ?_
        refine T.pv (PV.load1 rfl (by first | exact .fro (by assumption) | exact .own (by repeat (first | exact List.Mem.head _ | apply List.Mem.tail | apply List.mem_append_right))) rfl) (Wanted.guard rfl rfl rfl) rfl rfl ?_
        refine T.pv (PV.geq rfl rfl) (Wanted.guard rfl rfl rfl) rfl rfl ?_
        refine T.pv (PV.pickF rfl rfl rfl) Wanted.none rfl rfl ?_
        refine T.opsNil ?_
        refine T.condT rfl (decide_eq_true (by omega)) ?_
        refine T.seq ?_
        refine T.region ?_
        refine T.pv (PV.assign rfl) Wanted.none rfl rfl ?_
        refine T.pv (PV.assign rfl) Wanted.none rfl rfl ?_
        refine T.opsNil ?_
        exact T.retF (Lv.fin (RV.tmp2 rfl rfl rfl) (ChooseR.err herr))
      · refine T.seq ?_
        refine T.region ?_
        refine T.pv (PV.lss rfl rfl) Wanted.none rfl rfl ?_
        refine T.opsNil ?_
        refine T.seq ?_
        refine T.condT rfl (decide_eq_true (by omega)) ?_
        refine T.skip ?_
        refine T.seq ?_
        refine T.block ?_
        refine T.seq ?_
        refine T.region ?_
        refine T.pv (PV.indexAddr rfl rfl (by omega)) Wanted.none rfl rfl ?_
        refine T.pv (PV.loadSubAll rfl (by assumption) (by exact rfl)) Wanted.none rfl rfl ?_
        (refine T.alloc Wanted.none rfl ?_; intro b7)
        refine T.storeA Wanted.none rfl rfl (by repeat (first | exact trivial | refine And.intro rfl ?_)) (by exact rfl) (by repeat (first | exact Upd.head | apply Upd.tail | apply Upd.app)) (by repeat (first | exact Splice.nil | apply Splice.cons | apply Splice.skip)) ?_
        refine T.opsNil ?_
        refine T.seq ?_
        refine T.region ?_
        refine T.pv (PV.fieldAddr rfl) Wanted.none rfl rfl ?_
        refine T.pv (PV.load1 rfl (by first | exact .fro (by assumption) | exact .own (by repeat (first | exact List.Mem.head _ | apply List.Mem.tail | apply List.mem_append_right))) rfl) Wanted.none rfl rfl ?_
        refine T.pv (PV.lss rfl rfl) Wanted.none rfl rfl ?_
        refine T.pv (PV.move rfl) Wanted.none rfl rfl ?_
        refine T.setT (d := 30) rfl (by omega) ?_
        refine T.pass (Unwanted.guard rfl rfl rfl) rfl rfl ?_
        refine T.pass (Unwanted.guard rfl rfl rfl) rfl rfl ?_
        refine T.pass (Unwanted.guard rfl rfl rfl) rfl rfl ?_
        refine T.pass (Unwanted.guard rfl rfl rfl) rfl rfl ?_
        refine T.pass (Unwanted.guard rfl rfl rfl) rfl rfl ?_
        refine T.pv (PV.pickT rfl rfl rfl) Wanted.none rfl rfl ?_
        refine T.opsNil ?_
        refine T.condT rfl rfl ?_
        refine T.seq ?_
        refine T.region ?_
        refine T.pv (PV.assign rfl) Wanted.none rfl rfl ?_
        refine T.pv (PV.assign rfl) Wanted.none rfl rfl ?_
        refine T.opsNil ?_
        exact T.retF (Lv.fin (RV.tmp2 rfl rfl rfl) (ChooseR.err herr))
  rw [List.take_of_length_le (by omega)] at i2
  refine T.seq ?_
  refine T.region ?_
  refine T.pv (PV.lss rfl rfl) Wanted.none rfl rfl ?_
  refine T.opsNil ?_
  refine T.seq ?_
  refine T.condF rfl (decide_eq_false (by omega)) ?_
  refine T.exit rfl ?_
  refine T.seq ?_
  refine T.seq ?_
  refine T.region ?_
  refine T.pv (PV.assign rfl) Wanted.none rfl rfl ?_
  refine T.opsNil ?_
  refine T.block ?_
  refine T.loop (γ := Nat) (fun j => ∀ (i : Nat) (a b : Mt), i < j → l[i]? = some a → l[i + 1]? = some b → ltK (keyM a) (keyM b))
    (fun j => [(8, .int .i64 ((j + 1 : Nat) : Int)), (0, .int .i64 k), (1, .slice ad l.length cap)])
    (fun _ => []) (fun _ => H) (fun j => l.length - j) 0 (fun i a b h => by omega) (by repeat (first | exact trivial | refine And.intro rfl ?_)) (by repeat (first | exact List.Sublist.slnil | exact List.nil_sublist _ | exact List.Sublist.refl _ | exact List.sublist_append_left _ [] | apply List.Sublist.cons_cons | apply List.Sublist.cons | refine List.Sublist.append_left ?_ _ | refine List.sublist_append_of_sublist_right ?_)) rfl ?_
  intro j j2
  by_cases hj : j + 1 < l.length
  · obtain ⟨y, hy⟩ : ∃ x, l[j + 1]? = some x := ⟨_, List.getElem?_eq_getElem hj⟩
    obtain ⟨x, hx⟩ : ∃ x, l[j]? = some x := ⟨_, List.getElem?_eq_getElem (by omega)⟩
    obtain ⟨b, off, rfl, hsub1⟩ := hv.1.matchAt hx
    obtain ⟨b', off', e, hsub2⟩ := hv.1.matchAt hy
    injection e with e
    injection e with e1 e2
    subst e1 e2
    have hsub3 : SubC H b (off + (((j + 1 : Nat) : Int) - 1).toNat * 3) [.int .i64 x.b, .int .i64 x.e, x.v] := by
      rwa [show (((j + 1 : Nat) : Int) - 1).toNat = j by omega]
    clear hsub1
    have hcall := refCompare_fn x y H (hv.2 x (List.mem_of_getElem? hx)) (hv.2 y (List.mem_of_getElem? hy))
    unfold mtV at hcall
    by_cases hc : cmpL (keyM x) (keyM y) < 0
    · refine T.seq ?_
      refine T.seq ?_
      refine T.region ?_
      refine T.pv (PV.move rfl) Wanted.none rfl rfl ?_
      refine T.pv (PV.move rfl) Wanted.none rfl rfl ?_
      refine T.pv (PV.lenSl rfl) Wanted.none rfl rfl ?_
      refine T.pv (PV.lss rfl rfl) Wanted.none rfl rfl ?_
      refine T.opsNil ?_
      refine T.condT rfl (decide_eq_true (by omega)) ?_
      refine T.skip ?_
      refine T.seq ?_
      refine T.block ?_
      refine T.seq ?_
      refine T.regionQ (by kernel_rfl) ?_
      refine TQ.pv (PV.move rfl) Wanted.none rfl rfl ?_
      refine TQ.pv (PV.move rfl) Wanted.none rfl rfl ?_
      refine TQ.pv (PV.sub rfl rfl (by omega)) Wanted.none rfl rfl ?_
      refine TQ.pv (PV.indexAddr rfl rfl (by omega)) Wanted.none rfl rfl ?_
      refine TQ.pv (PV.loadSubAll rfl (by assumption) (by exact rfl)) Wanted.none rfl rfl ?_
      refine TQ.pv (PV.move rfl) Wanted.none rfl rfl ?_
      refine TQ.pv (PV.move rfl) Wanted.none rfl rfl ?_
      refine TQ.pv (PV.indexAddr rfl rfl (by omega)) Wanted.none rfl rfl ?_
      refine TQ.pv (PV.loadSubAll rfl (by assumption) (by exact rfl)) Wanted.none rfl rfl ?_
      refine TQ.callV Wanted.none rfl rfl (hcall) ?_
      refine TQ.pv (PV.geq rfl rfl) Wanted.none rfl rfl ?_
      refine TQ.nil ?_
      refine T.condF rfl (decide_eq_false (by omega)) ?_
      refine T.skip ?_
      refine T.blkEnd ?_
      refine T.region ?_
      refine T.pv (PV.move rfl) Wanted.none rfl rfl ?_
      refine T.pv (PV.add rfl rfl (by omega)) Wanted.none rfl rfl ?_
      refine T.pv (PV.assign rfl) Wanted.none rfl rfl ?_
      refine T.opsNil ?_
      refine T.next (j + 1) (fun i a b h ha hb => ?_) (by omega) (by repeat (first | exact trivial | refine And.intro rfl ?_)) (by repeat (first | exact List.Sublist.slnil | exact List.nil_sublist _ | exact List.Sublist.refl _ | exact List.sublist_append_left _ [] | apply List.Sublist.cons_cons | apply List.Sublist.cons | refine List.Sublist.append_left ?_ _ | refine List.sublist_append_of_sublist_right ?_)) rfl
      rcases Nat.lt_or_ge i j with h' | h'
      · exact j2 i a b h' ha hb
      · have : i = j := by omega
        subst this
        rw [hx] at ha; rw [hy] at hb
        injection ha with ha; injection hb with hb
        subst ha hb; exact hc
    · have herr := errM_order (k := k) (l := l) (ea := 1) (er := 8) (eo := 6) ⟨hk0, hk3⟩ i2 (fun h => hc (ascM_adj h hx hy))
      refine T.seq ?_
      refine T.seq ?_
      refine T.region ?_
      refine T.pv (PV.move rfl) Wanted.none rfl rfl ?_
      refine T.pv (PV.move rfl) Wanted.none rfl rfl ?_
      refine T.pv (PV.lenSl rfl) Wanted.none rfl rfl ?_
      refine T.pv (PV.lss rfl rfl) Wanted.none rfl rfl ?_
      refine T.opsNil ?_
      refine T.condT rfl (decide_eq_true (by omega)) ?_
      refine T.skip ?_
      refine T.seq ?_
      refine T.block ?_
      refine T.seq ?_
      refine T.regionQ (by kernel_rfl) ?_
      refine TQ.pv (PV.move rfl) Wanted.none rfl rfl ?_
      refine TQ.pv (PV.move rfl) Wanted.none rfl rfl ?_
      refine TQ.pv (PV.sub rfl rfl (by omega)) Wanted.none rfl rfl ?_
      refine TQ.pv (PV.indexAddr rfl rfl (by omega)) Wanted.none rfl rfl ?_
      refine TQ.pv (PV.loadSubAll rfl (by assumption) (by exact rfl)) Wanted.none rfl rfl ?_
      refine TQ.pv (PV.move rfl) Wanted.none rfl rfl ?_
      refine TQ.pv (PV.move rfl) Wanted.none rfl rfl ?_
      refine TQ.pv (PV.indexAddr rfl rfl (by omega)) Wanted.none rfl rfl ?_
      refine TQ.pv (PV.loadSubAll rfl (by assumption) (by exact rfl)) Wanted.none rfl rfl ?_
      refine TQ.callV Wanted.none rfl rfl (hcall) ?_
      refine TQ.pv (PV.geq rfl rfl) Wanted.none rfl rfl ?_
      refine TQ.nil ?_
      refine T.condT rfl (decide_eq_true (by omega)) ?_
      refine T.seq ?_
      refine T.region ?_
      refine T.pv (PV.assign rfl) Wanted.none rfl rfl ?_
      refine T.pv (PV.assign rfl) Wanted.none rfl rfl ?_
      refine T.opsNil ?_
      exact T.retF (Lv.fin (RV.tmp2 rfl rfl rfl) (ChooseR.err herr))
  have hgood : goodM k l := ⟨⟨hk0, hk3⟩, i2, ascM_of_adj l fun i a b ha hb => j2 i a b (by have := (List.getElem?_eq_some_iff.1 hb).1; omega) ha hb⟩
  have hsl := spM_len l
  clear j2
  have hs9 := spM_sorted l
  have hok9 := spM_ok hgood.2.1
  refine T.seq ?_
  refine T.seq ?_
  refine T.region ?_
  refine T.pv (PV.move rfl) Wanted.none rfl rfl ?_
  refine T.pv (PV.move rfl) Wanted.none rfl rfl ?_
  refine T.pv (PV.lenSl rfl) Wanted.none rfl rfl ?_
  refine T.pv (PV.lss rfl rfl) Wanted.none rfl rfl ?_
  refine T.opsNil ?_
  refine T.condF rfl (decide_eq_false (by omega)) ?_
  refine T.exit rfl ?_
  refine T.seq ?_
  refine T.region ?_
  refine T.pv (PV.move rfl) Wanted.none rfl rfl ?_
  refine T.pv (PV.move rfl) Wanted.none rfl rfl ?_
  refine T.call Wanted.none rfl rfl (refSpans_fn l _ H hv hl) ?_
  intro u9 H9 hle9 hu9
  skip
  refine T.call Wanted.none rfl rfl (chosen_fn k (spM l) u9 H9 hu9 (by omega) hs9 hok9) ?_
  intro u11 H11 hle11 hu11
  have hcl := (chosen_sub k (spM l)).length_le
  have hcs := hs9.sublist (chosen_sub k (spM l))
  have hle := hle9.trans hle11
  have hfin : ∀ {v' : Value} {a : List Mt} {H' : Hp}, MtL H' v' a → a.map keyM = (pickM (chosenL k (spM l)) l).map keyM → ChooseR k l (.tuple #[v', .int .i64 0]) H' := fun h1 h2 => ChooseR.ok hgood h1 h2
  generalize chosenL k (spM l) = c at hu11 hcl hcs hfin
  obtain ⟨adc, capc, rfl⟩ := hu11.len
  have hv11 := hv.mono hle
  refine T.pv (PV.assign rfl) Wanted.none rfl rfl ?_
  refine T.opsNil ?_
  refine T.seq ?_
  refine T.region ?_
  refine T.pv (PV.assign rfl) Wanted.none rfl rfl ?_
  refine T.opsNil ?_
  refine T.seq ?_
  refine T.seq ?_
  refine T.region ?_
  refine T.pv (PV.move rfl) Wanted.none rfl rfl ?_
  refine T.pv (PV.lenSl rfl) Wanted.none rfl rfl ?_
  refine T.pv (PV.move rfl) Wanted.none rfl rfl ?_
  refine T.opsNil ?_
  refine T.block ?_
  refine T.loop (γ := ChG) (fun g => g.j ≤ l.length ∧ MtV g.v g.lv g.a ∧ g.a = pickM c (l.take g.j))
    (fun g => [(61, .int .i64 (g.j : Int)), (60, .int .i64 (l.length : Int)), (59, .slice ad l.length cap), (10, g.v), (9, .slice adc c.length capc)])
    (fun g => g.lv) (fun _ => H11) (fun g => l.length - g.j) ⟨0, [], .slice none 0 0, [], H11⟩ ⟨by simp, Vec.nil 38 3, rfl⟩ (by repeat (first | exact trivial | refine And.intro rfl ?_)) (by repeat (first | exact List.Sublist.slnil | exact List.nil_sublist _ | exact List.Sublist.refl _ | exact List.sublist_append_left _ [] | apply List.Sublist.cons_cons | apply List.Sublist.cons | refine List.Sublist.append_left ?_ _ | refine List.sublist_append_of_sublist_right ?_)) rfl ?_
  rintro ⟨j, a, u12, lv, Hj⟩ ⟨j1, j3, j5⟩
  dsimp only at j1 j3 j5 ⊢
  have hal : a.length ≤ l.length := by
    rw [j5]
    have h2 : (pickM c (l.take j)).length ≤ (l.take j).length := List.length_filter_le _ _
    have h3 : (l.take j).length ≤ l.length := List.length_take_le' _ _
    omega
  by_cases hj : j < l.length
  · obtain ⟨m, hx⟩ : ∃ x, l[j]? = some x := ⟨_, List.getElem?_eq_getElem hj⟩
    obtain ⟨b, off, rfl, hsub⟩ := hv11.1.matchAt hx
    have hlab := hv11.2 m (List.mem_of_getElem? hx)
    obtain ⟨am, cm, hmv⟩ := hlab.1.len
    rw [hmv] at hsub
    have hpt := pick_take (c := c) hx
    refine T.seq ?_
    refine T.region ?_
    refine T.pv (PV.lss rfl rfl) Wanted.none rfl rfl ?_
    refine T.opsNil ?_
    refine T.seq ?_
    refine T.condT rfl (decide_eq_true (by omega)) ?_
    refine T.skip ?_
    refine T.seq ?_
    refine T.block ?_
    refine T.seq ?_
    refine T.region ?_
    refine T.pv (PV.indexAddr rfl rfl (by omega)) Wanted.none rfl rfl ?_
    refine T.pv (PV.loadSubAll rfl (by assumption) (by exact rfl)) Wanted.none rfl rfl ?_
    (refine T.alloc Wanted.none rfl ?_; intro b12)
    refine T.storeA Wanted.none rfl rfl (by repeat (first | exact trivial | refine And.intro rfl ?_)) (by exact rfl) (by repeat (first | exact Upd.head | apply Upd.tail | apply Upd.app)) (by repeat (first | exact Splice.nil | apply Splice.cons | apply Splice.skip)) ?_
    refine T.opsNil ?_
    refine T.seq ?_
    refine T.region ?_
    refine T.pv (PV.move rfl) Wanted.none rfl rfl ?_
    refine T.pv (PV.lenSl rfl) Wanted.none rfl rfl ?_
    refine T.pv (PV.move rfl) Wanted.none rfl rfl ?_
    refine T.opsNil ?_
    refine T.block ?_
    refine T.loop (γ := ChG) (fun g => g.j ≤ c.length ∧ MtV g.v g.lv g.a ∧ g.a = a ++ (if spm m ∈ c.take g.j then [m] else []))
      (fun g => [(67, .int .i64 (g.j : Int)), (66, .int .i64 (c.length : Int)), (65, .slice adc c.length capc), (12, .pointer (some ⟨b12, 0, none⟩)), (61, .int .i64 (j : Int)), (60, .int .i64 (l.length : Int)), (59, .slice (some ⟨b, off, none⟩) l.length cap), (10, g.v), (9, .slice adc c.length capc)])
      (fun g => (b12, .cells #[.int .i64 m.b, .int .i64 m.e, .slice am m.ls.length cm] 38 (0, 0)) :: g.lv) (fun _ => H11) (fun g => c.length - g.j) ⟨0, a, u12, lv, H11⟩ ⟨by simp, j3, by simp⟩ (by repeat (first | exact trivial | refine And.intro rfl ?_)) (by repeat (first | exact List.Sublist.slnil | exact List.nil_sublist _ | exact List.Sublist.refl _ | exact List.sublist_append_left _ [] | apply List.Sublist.cons_cons | apply List.Sublist.cons | refine List.Sublist.append_left ?_ _ | refine List.sublist_append_of_sublist_right ?_)) rfl ?_
    rintro ⟨i2, a2, u2, lv2, Hi⟩ ⟨g1, g3, g5⟩
    dsimp only at g1 g3 g5 ⊢
    have ha2 : a2.length ≤ l.length + 1 := by rw [g5, List.length_append]; split <;> simp <;> omega
    by_cases hi2 : i2 < c.length
    · obtain ⟨t, ht⟩ : ∃ x, c[i2]? = some x := ⟨_, List.getElem?_eq_getElem hi2⟩
      obtain ⟨bc, offc, rfl, hsub2⟩ := hu11.span ht
      have hq := eqS_eq t (m.b, m.e)
      dsimp only at hq
      have htk : c.take (i2 + 1) = c.take i2 ++ [t] := by rw [List.take_add_one, ht]; rfl
      by_cases he : t = (m.b, m.e)
      · rw [decide_eq_true he] at hq
        have hnot : spm m ∉ c.take i2 := by
          intro h
          obtain ⟨n, hn, e⟩ := List.getElem_of_mem h
          rw [List.length_take] at hn
          rw [List.getElem_take] at e
          have := asc_at hcs (List.getElem?_eq_getElem (by omega : n < c.length)) ht (by omega)
          rw [e, he] at this
          exact ltC_sto.irr _ this
        rw [if_neg hnot, List.append_nil] at g5
        subst g5
        have hnow : spm m ∈ c.take (i2 + 1) := by rw [htk, he]; exact List.mem_append_right _ (List.mem_singleton.2 rfl)
        refine T.seq ?_
        refine T.region ?_
        refine T.pv (PV.lss rfl rfl) Wanted.none rfl rfl ?_
        refine T.opsNil ?_
        refine T.seq ?_
        refine T.condT rfl (decide_eq_true (by omega)) ?_
        refine T.skip ?_
        refine T.seq ?_
        refine T.block ?_
        refine T.seq ?_
        refine T.region ?_
        refine T.pv (PV.indexAddr rfl rfl (by omega)) Wanted.none rfl rfl ?_
        refine T.pv (PV.loadSubAll rfl (by assumption) (by exact rfl)) Wanted.none rfl rfl ?_
        (refine T.alloc Wanted.none rfl ?_; intro b14)
        refine T.storeA Wanted.none rfl rfl (by repeat (first | exact trivial | refine And.intro rfl ?_)) (by exact rfl) (by repeat (first | exact Upd.head | apply Upd.tail | apply Upd.app)) (by repeat (first | exact Splice.nil | apply Splice.cons | apply Splice.skip)) ?_
        refine T.opsNil ?_
        refine T.seq ?_
        refine T.region ?_
        refine T.pv (PV.loadAll rfl (by first | exact .fro (by assumption) | exact .own (by repeat (first | exact List.Mem.head _ | apply List.Mem.tail | apply List.mem_append_right))) (by exact rfl)) Wanted.none rfl rfl ?_
        refine T.pv (PV.fieldAddr rfl) Wanted.none rfl rfl ?_
        refine T.pv (PV.load1 rfl (by first | exact .fro (by assumption) | exact .own (by repeat (first | exact List.Mem.head _ | apply List.Mem.tail | apply List.mem_append_right))) rfl) Wanted.none rfl rfl ?_
        refine T.pv (PV.fieldAddr rfl) Wanted.none rfl rfl ?_
        refine T.pv (PV.load1 rfl (by first | exact .fro (by assumption) | exact .own (by repeat (first | exact List.Mem.head _ | apply List.Mem.tail | apply List.mem_append_right))) rfl) Wanted.none rfl rfl ?_
        refine T.pv (PV.build rfl (by repeat (first | exact FillR.nil | (apply FillR.cons rfl; (first | exact CellsR.one rfl | exact CellsR.agg); rfl; repeat (first | exact Splice.nil | apply Splice.cons | apply Splice.skip))))) Wanted.none rfl rfl ?_
        refine T.pv (PV.aeql rfl rfl rfl rfl) Wanted.none rfl rfl ?_
        refine T.opsNil ?_
        refine T.condT rfl (by assumption) ?_
        refine T.region ?_
        refine T.pv (PV.move rfl) Wanted.none rfl rfl ?_
        refine T.pv (PV.loadAll rfl (by first | exact .fro (by assumption) | exact .own (by repeat (first | exact List.Mem.head _ | apply List.Mem.tail | apply List.mem_append_right))) (by exact rfl)) Wanted.none rfl rfl ?_
        (refine T.buildSlice Wanted.none rfl rfl (by repeat (first | exact FillAll.nil | (apply FillAll.cons; (first | exact CellsR.one rfl | exact CellsR.agg); exact rfl))) (by exact rfl) (by exact rfl) ?_; intro b80)
        refine T.appendE [_, _, _] (lv := lv2) Wanted.none rfl rfl rfl g3 (Src.cells (m := 1) (ys := encM ⟨m.b, m.e, .slice am m.ls.length cm, m.ls⟩) (.own (by repeat (first | exact List.Mem.head _ | apply List.Mem.tail | apply List.mem_append_right))) rfl rfl) (one_encM (H := H11) (by rw [← hmv]; exact hlab)) (by omega) ?_
        intro v2 lv3 hv2 _
        have hme : (⟨m.b, m.e, .slice am m.ls.length cm, m.ls⟩ : Mt) = m := by rw [← hmv]
        rw [hme] at hv2
        refine T.pv (PV.assign rfl) Wanted.none rfl rfl ?_
        refine T.opsNil ?_
        refine T.blkEnd ?_
        refine T.region ?_
        refine T.pv (PV.add rfl rfl (by omega)) Wanted.none rfl rfl ?_
        refine T.pv (PV.move rfl) Wanted.none rfl rfl ?_
        refine T.opsNil ?_
        refine T.next ⟨i2 + 1, a2 ++ [m], v2, lv3, H11⟩ ⟨by dsimp only; omega, MtV.snoc hv2, by dsimp only; rw [if_pos hnow]⟩ (by dsimp only; omega) (by repeat (first | exact trivial | refine And.intro rfl ?_)) (by repeat (first | exact List.Sublist.slnil | exact List.nil_sublist _ | exact List.Sublist.refl _ | exact List.sublist_append_left _ [] | apply List.Sublist.cons_cons | apply List.Sublist.cons | refine List.Sublist.append_left ?_ _ | refine List.sublist_append_of_sublist_right ?_)) rfl
      · rw [decide_eq_false he] at hq
        have hnow : spm m ∈ c.take (i2 + 1) ↔ spm m ∈ c.take i2 := by
          rw [htk, List.mem_append, List.mem_singleton]
          exact ⟨fun h => h.resolve_right fun h => he h.symm, .inl⟩
        refine T.seq ?_
        refine T.region ?_
        refine T.pv (PV.lss rfl rfl) Wanted.none rfl rfl ?_
        refine T.opsNil ?_
        refine T.seq ?_
        refine T.condT rfl (decide_eq_true (by omega)) ?_
        refine T.skip ?_
        refine T.seq ?_
        refine T.block ?_
        refine T.seq ?_
        refine T.region ?_
        refine T.pv (PV.indexAddr rfl rfl (by omega)) Wanted.none rfl rfl ?_
        refine T.pv (PV.loadSubAll rfl (by assumption) (by exact rfl)) Wanted.none rfl rfl ?_
        (refine T.alloc Wanted.none rfl ?_; intro b14)
        refine T.storeA Wanted.none rfl rfl (by repeat (first | exact trivial | refine And.intro rfl ?_)) (by exact rfl) (by repeat (first | exact Upd.head | apply Upd.tail | apply Upd.app)) (by repeat (first | exact Splice.nil | apply Splice.cons | apply Splice.skip)) ?_
        refine T.opsNil ?_
        refine T.seq ?_
        refine T.region ?_
        refine T.pv (PV.loadAll rfl (by first | exact .fro (by assumption) | exact .own (by repeat (first | exact List.Mem.head _ | apply List.Mem.tail | apply List.mem_append_right))) (by exact rfl)) Wanted.none rfl rfl ?_
        refine T.pv (PV.fieldAddr rfl) Wanted.none rfl rfl ?_
        refine T.pv (PV.load1 rfl (by first | exact .fro (by assumption) | exact .own (by repeat (first | exact List.Mem.head _ | apply List.Mem.tail | apply List.mem_append_right))) rfl) Wanted.none rfl rfl ?_
        refine T.pv (PV.fieldAddr rfl) Wanted.none rfl rfl ?_
        refine T.pv (PV.load1 rfl (by first | exact .fro (by assumption) | exact .own (by repeat (first | exact List.Mem.head _ | apply List.Mem.tail | apply List.mem_append_right))) rfl) Wanted.none rfl rfl ?_
        refine T.pv (PV.build rfl (by repeat (first | exact FillR.nil | (apply FillR.cons rfl; (first | exact CellsR.one rfl | exact CellsR.agg); rfl; repeat (first | exact Splice.nil | apply Splice.cons | apply Splice.skip))))) Wanted.none rfl rfl ?_
        refine T.pv (PV.aeql rfl rfl rfl rfl) Wanted.none rfl rfl ?_
        refine T.opsNil ?_
        refine T.condF rfl (by assumption) ?_
        refine T.skip ?_
        refine T.blkEnd ?_
        refine T.region ?_
        refine T.pv (PV.add rfl rfl (by omega)) Wanted.none rfl rfl ?_
        refine T.pv (PV.move rfl) Wanted.none rfl rfl ?_
        refine T.opsNil ?_
        exact T.next ⟨i2 + 1, a2, u2, lv2, H11⟩ ⟨by dsimp only; omega, g3, by dsimp only; rw [g5]; simp only [hnow]⟩ (by dsimp only; omega) (by repeat (first | exact trivial | refine And.intro rfl ?_)) (by repeat (first | exact List.Sublist.slnil | exact List.nil_sublist _ | exact List.Sublist.refl _ | exact List.sublist_append_left _ [] | apply List.Sublist.cons_cons | apply List.Sublist.cons | refine List.Sublist.append_left ?_ _ | refine List.sublist_append_of_sublist_right ?_)) rfl
    · rw [List.take_of_length_le (by omega)] at g5
      have hnew : a2 = pickM c (l.take (j + 1)) := by
        rw [g5, hpt, j5]; split <;> simp
      refine T.seq ?_
      refine T.region ?_
      refine T.pv (PV.lss rfl rfl) Wanted.none rfl rfl ?_
      refine T.opsNil ?_
      refine T.seq ?_
      refine T.condF rfl (decide_eq_false (by omega)) ?_
      refine T.exit rfl ?_
      refine T.blkEnd ?_
      refine T.region ?_
      refine T.pv (PV.add rfl rfl (by omega)) Wanted.none rfl rfl ?_
      refine T.pv (PV.move rfl) Wanted.none rfl rfl ?_
      refine T.opsNil ?_
      exact T.next ⟨j + 1, a2, u2, lv2, H11⟩ ⟨by dsimp only; omega, g3, hnew⟩ (by dsimp only; omega) (by repeat (first | exact trivial | refine And.intro rfl ?_)) (by repeat (first | exact List.Sublist.slnil | exact List.nil_sublist _ | exact List.Sublist.refl _ | exact List.sublist_append_left _ [] | apply List.Sublist.cons_cons | apply List.Sublist.cons | refine List.Sublist.append_left ?_ _ | refine List.sublist_append_of_sublist_right ?_)) rfl
  · rw [List.take_of_length_le (by omega)] at j5
    refine T.seq ?_
    refine T.region ?_
    refine T.pv (PV.lss rfl rfl) Wanted.none rfl rfl ?_
    refine T.opsNil ?_
    refine T.seq ?_
    refine T.condF rfl (decide_eq_false (by omega)) ?_
    refine T.exit rfl ?_
    refine T.seq ?_
    refine T.region ?_
    refine T.pv (PV.move rfl) Wanted.none rfl rfl ?_
    refine T.pv (PV.assign rfl) Wanted.none rfl rfl ?_
    refine T.pv (PV.assign rfl) Wanted.none rfl rfl ?_
    refine T.opsNil ?_
    exact T.retF (Vec.freezeLv (l' := []) j3 (by rw [List.append_nil]; exact List.Sublist.refl _) fun H' hleF hsl => Lv.fin (RV.tmp2 rfl rfl rfl) (hfin ⟨hsl, fun m hm => (hv11.2 m (by rw [j5] at hm; exact (List.mem_filter.1 hm).1)).mono hleF⟩ (by rw [j5])))
end Go.Proofs.Ytceaicameojcaaa
