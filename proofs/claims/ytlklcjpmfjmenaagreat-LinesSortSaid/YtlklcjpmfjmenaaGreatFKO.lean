/- lines: the statement Stable. -/
import Derived.Test.YtlklcjpmfjmenaaGreatFKN
import Derived.Test.YtlklcjpmfjmenaaGreatFKQ
import Derived.Test.YtlklcjpmfjmenaaGreatFKF
namespace Go.Proofs.YtlklcjpmfjmenaaGreat
open Go.RowKit


theorem key_ok {c : Cp} (hg : CpG c) {ks : List Ky} (hk : ∀ k ∈ ks, KyG k) (hl : ks.length ≤ 8) : keyErr c [bs [120]] ks = 0 := by
  have h1 : ¬ ks.any badK = true := by
    rw [List.any_eq_true]
    rintro ⟨k, hm, hb⟩
    obtain ⟨⟨a1, a2⟩, a3, _⟩ := hk k hm
    unfold badK at hb
    rw [decide_eq_false (by omega), decide_eq_false (by omega)] at hb
    by_cases h3 : k.at_ = 3
    · rw [decide_eq_false (by simp [h3])] at hb; simp at hb
    · rw [if_neg h3] at a3
      rw [a3] at hb
      have : decide (bs [] ≠ ⟨#[]⟩) = false := rfl
      rw [this] at hb
      simp at hb
  have h2 : ¬ ks.any (nameK c) = true := by
    rw [List.any_eq_true]
    rintro ⟨k, hm, hb⟩
    obtain ⟨_, _, a4⟩ := hk k hm
    unfold nameK at hb
    rw [hg.att] at hb
    rcases a4 with h | h <;> (rw [h] at hb; revert hb; decide)
  have h3 : ¬ ks.any (lostK [bs [120]]) = true := by
    rw [List.any_eq_true]
    rintro ⟨k, hm, hb⟩
    obtain ⟨_, a3, _⟩ := hk k hm
    unfold lostK at hb
    by_cases h3 : k.at_ = 3
    · rw [if_pos h3] at a3
      rw [a3] at hb
      simp at hb
    · rw [decide_eq_false h3] at hb; simp at hb
  unfold keyErr
  rw [if_neg (by omega), if_neg h1, if_neg h2, if_neg h3]
theorem sort_ok {c : Cp} {lb : List ByteArray} {L : List Mt} {ks : List Ky} {vl vm vk : Value} {H : Hp} (hc : CpL H c) (hw : CpW c) (hlb : StL H vl lb) (hL : MtL H vm L) (hk : KyL H vk ks) (hll : lb.length ≤ 1000) (hLl : L.length ≤ 19) (hkl : ks.length ≤ 1000000) (hls : ∀ m ∈ L, m.ls.length ≤ 1000) (he : keyErr c lb ks = 0) (hf : ∀ m ∈ L, fitsM c lb m = true) :
    Fn Tryz.prog 9 #[cpV c, vl, vm, vk] H (fun u H' => ∃ v L', u = .tuple #[v, .int .i64 0] ∧ MtL H' v L' ∧ L'.map mk3 = sortT c lb ks (L.map mk3)) := by
  have h0 : srtE c lb ks L = 0 := by unfold srtE; rw [if_neg (by simpa using he), if_pos (List.all_eq_true.2 hf)]
  refine (sort_in c lb L ks vl vm vk H hc hw hlb hL hk hll hLl hkl hls).mono ?_
  rintro u H' ⟨v, L', rfl, h1, h2, _⟩
  exact ⟨v, L', by rw [h0], h1, by rw [h2 h0, sortM_T]⟩
theorem key_of_mk3 {l m : List Mt} (h : l.map mk3 = m.map mk3) : l.map keyM = m.map keyM := by
  have hk : ∀ l : List Mt, l.map keyM = (l.map mk3).map fun x => x.1 :: x.2.1 :: x.2.2 := by
    intro l; rw [List.map_map]; rfl
  rw [hk, hk, h]
end Go.Proofs.YtlklcjpmfjmenaaGreat
