/- So many at once, and no more, plainly. -/
import Derived.Test.YtihbdelgoapeoaaTMS
namespace Go.Proofs.Ytihbdelgoapeoaa.T
open Go F
set_option linter.unusedVariables false
set_option linter.unusedSimpArgs false
set_option maxRecDepth 20000

theorem band_nat (a : Int) (j : Nat) (hj : j ≤ 1000) : ∃ m : Nat, m ≤ j ∧ band .i64 a (j : Int) = (m : Int) := by
  refine ⟨(BitVec.ofInt 64 a &&& BitVec.ofInt 64 (j : Int)).toNat, ?_, ?_⟩
  · rw [BitVec.toNat_and]
    refine Nat.le_trans Nat.and_le_right ?_
    rw [BitVec.toNat_ofInt]
    omega
  · have h : (BitVec.ofInt 64 a &&& BitVec.ofInt 64 (j : Int)).toNat ≤ 1000 := by
      rw [BitVec.toNat_and]
      refine Nat.le_trans Nat.and_le_right ?_
      rw [BitVec.toNat_ofInt]
      omega
    show IntKind.wrap .i64 _ = _
    exact wi64 (by omega) (by show ((BitVec.ofInt 64 a &&& BitVec.ofInt 64 (j : Int)).toNat : Int) ≤ _; omega)
theorem comb128 {a : List match_Match} (hl : a.length ≤ 7) (k : Nat) : (combM noM a k).length ≤ 128 :=
  Nat.le_trans (combM_len a k noM) (Nat.pow_le_pow_right (by decide) hl)
theorem times_eq (a : List match_Match) (ha : Lens 10 a) (hl : a.length ≤ 7) (lo : Nat) (hi : Int) (hlo : lo ≤ 100) (hi1 : -1 ≤ hi) (hi2 : hi ≤ 100) :
    F.match_Times a ⟨(lo : Int), hi⟩ = some (if (a.length : Int) ≤ hi then (combM noM a lo, (0 : Int)) else if hi < 0 then ([], 0) else
      match notL (combM noM a (hi + 1).toNat) [noM] with
      | none => ([], 23)
      | some r => if 400 < (combM noM a lo).length * r.length then ([], 23) else (andL (combM noM a lo) r, 0)) := by
  have up : Lens 100 a := fun m hm => by have := ha m hm; omega
  unfold F.match_Times
  have hmax : max (0 : Int) (lo : Int) = (lo : Int) := by omega
  have h128 := comb128 hl lo
  simp only [hmax]
  rw [some_eq a lo (by omega) up (by omega) (by omega)]
  simp only [Option.bind_some, bne_self_eq_false, Bool.false_or]
  by_cases h1 : (a.length : Int) ≤ hi
  · rw [if_pos (by simpa using h1), if_pos h1]
  · rw [if_neg (by simpa using h1), if_neg h1]
    by_cases h2 : hi < 0
    · rw [if_pos (by simpa using h2), if_pos h2]
    · rw [if_neg (by simpa using h2), if_neg h2]
      have hn : hi + 1 = (((hi + 1).toNat : Nat) : Int) := by omega
      have h129 := comb128 hl (hi + 1).toNat
      rw [wi64 (by omega) (by omega)]
      have hsome : F.match_some a (hi + 1) = some (combM noM a (hi + 1).toNat, 0) := by
        rw [hn]
        exact some_eq a (hi + 1).toNat (by omega) up (by omega) (by omega)
      rw [hsome, Option.bind_some]
      simp only [bne_self_eq_false, Bool.false_eq_true, if_false]
      have hls := combM_lens (c := 10) a (hi + 1).toNat noM 0 ha (by simp)
      have hbig : 0 + 10 * (hi + 1).toNat ≤ 2000 := by omega
      rw [not_eq _ (fun m hm => by have := hls m hm; omega) (by omega), Option.bind_some]
      have hns := notL_sizes (combM noM a (hi + 1).toNat) [noM]
      cases hnot : notL (combM noM a (hi + 1).toNat) [noM] with
      | none => rfl
      | some r =>
        obtain ⟨g1, g2⟩ := hns r 0 hnot (by simp [Lens]) (by simp)
        simp only [bne_self_eq_false, Bool.false_eq_true, if_false]
        have hll := combM_lens (c := 10) a lo noM 0 ha (by simp)
        rw [and_eq (combM noM a lo) r (fun m hm => by have := hll m hm; simp only [K]; omega) (fun m hm => by have := g1 m hm; simp only [K]; omega) (by simp only [maxI]; omega) (by omega)]
        rfl
end Go.Proofs.Ytihbdelgoapeoaa.T
