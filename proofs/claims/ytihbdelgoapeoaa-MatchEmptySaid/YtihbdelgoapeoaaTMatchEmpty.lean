/- MatchEmpty, plainly. -/
import Derived.Test.YtihbdelgoapeoaaTMT
namespace Go.Proofs.Ytihbdelgoapeoaa.T
open Go F
set_option linter.unusedVariables false
set_option linter.unusedSimpArgs false
set_option maxRecDepth 20000

theorem MatchEmpty (b : List match_Match) (x y : Int) (hb : b.length ≤ 9223372036854775807 ∧ ∀ x ∈ b, q_match_Match x) (hx : -9223372036854775808 ≤ x ∧ x ≤ 9223372036854775807) (hy : -9223372036854775808 ≤ y ∧ y ≤ 9223372036854775807) : F.law12_MatchEmpty b x y = some true := by
  unfold F.law12_MatchEmpty
  simp only [head_ok, Option.bind_some, Bool.not_true, Bool.false_eq_true, if_false]
  rcases good_eq b 20 hb.1 with h | ⟨h, gb, lb⟩
  · simp [h]
  · simp only [h, Option.bind_some, Bool.not_true, Bool.false_eq_true, if_false]
    have b2 : Lens K b := fun o ho => by have := gb o ho; simp only [K]; omega
    have e0 : Lens K [] := fun o ho => by cases ho
    rw [or_eq [] b e0 b2 (by simp; omega), and_eq [] b e0 b2 (by simp) (by omega), not_eq [] (fun o ho => by cases ho) (by simp)]
    obtain ⟨lo, hlo, elo⟩ := band_nat x 7 (by omega)
    obtain ⟨hi, hhi, ehi⟩ := band_nat y 7 (by omega)
    have elo' : band .i64 x 7 = (lo : Int) := elo
    have ehi' : band .i64 y 7 = (hi : Int) := ehi
    rw [elo', ehi', times_eq [] (fun o ho => by cases ho) (by simp) lo hi (by omega) (by omega) (by omega)]
    have hn : ¬ 400 < ([] : List match_Match).length + b.length := by simp; omega
    rw [if_neg hn, if_neg (by simp), if_pos (by simp)]
    simp only [Option.bind_some, notL, List.nil_append, beq_self_eq_true, Bool.and_self, if_true]
    rw [same_refl b hb.1 (fun m hm => by have := b2 m hm; simp only [K, maxI] at *; omega)]
    rw [holds_eq [noM] (by decide), of_go [] (by decide), holds_eq [] (by decide)]
    cases lo with
    | zero =>
      rw [combM_zero, holds_eq [noM] (by decide)]
      simp [andL]
    | succ n =>
      rw [combM_none _ _ _ (by simp), holds_eq [] (by decide)]
      have hne : ¬ ((n : Int) + 1 = 0) := by omega
      simp [andL, hne]
end Go.Proofs.Ytihbdelgoapeoaa.T
