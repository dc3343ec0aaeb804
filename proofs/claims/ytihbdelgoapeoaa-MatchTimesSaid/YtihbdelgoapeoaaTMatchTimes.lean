/- MatchTimes, plainly. -/
import Derived.Test.YtihbdelgoapeoaaTMT
namespace Go.Proofs.Ytihbdelgoapeoaa.T
open Go F
set_option linter.unusedVariables false
set_option linter.unusedSimpArgs false
set_option maxRecDepth 20000

/-- The statement's own way to choose. -/
theorem choose_fu (a : List match_Match) (ha : Lens 10 a) (hl : a.length ≤ 7) : ∀ (fu k : Nat) (l pre : List match_Match) (so : match_Match) (out : List match_Match), k < fu → k ≤ 100 → a = pre ++ l →
    so.In.length + 10 * k ≤ 100000 ∧ so.Out.length + 10 * k ≤ 100000 → out.length + (combM so l k).length ≤ 1000 →
    F.law12_choose_fu fu a (pre.length : Int) (k : Int) so out = some (out ++ combM so l k) := by
  intro fu
  induction fu with
  | zero => intro k l pre so out hk; omega
  | succ fu ih =>
    intro k l pre so out hk hk1 e hso hout
    cases k with
    | zero =>
      rw [combM_zero] at hout ⊢
      rw [F.law12_choose_fu.eq_2]
      rw [if_pos (by simp), lapp_yes (by simp only [maxL]; simp at hout ⊢; omega)]
      rfl
    | succ k =>
      rw [F.law12_choose_fu.eq_2]
      have hz : ((((k + 1 : Nat) : Int)) == 0) = false := by simp; omega
      rw [if_neg (by rw [hz]; simp)]
      have hw : IntKind.wrap .i64 (((k + 1 : Nat) : Int) - 1) = (k : Int) := by rw [wi64 (by omega) (by omega)]; omega
      have key : ∀ (l pre : List match_Match) (out : List match_Match), a = pre ++ l → out.length + (combM so l (k + 1)).length ≤ 1000 →
          F.law12_choose_l1 (F.law12_choose_fu fu) a ((k + 1 : Nat) : Int) so (out, (pre.length : Int)) = some (out ++ combM so l (k + 1)) := by
        intro l
        induction l with
        | nil =>
          intro pre out e _
          have : a.length = pre.length := by rw [e]; simp
          have hs : F.law12_choose_s1 (F.law12_choose_fu fu) a ((k + 1 : Nat) : Int) so (out, (pre.length : Int)) = some (.inr out) := by
            unfold F.law12_choose_s1
            rw [if_neg (by simp; omega)]
          unfold F.law12_choose_l1
          rw [iter_eq, hs]
          simp [combM]
        | cons x t ih2 =>
          intro pre out e ho
          have hlen : a.length = pre.length + (t.length + 1) := by rw [e]; simp
          have hx : a[pre.length]? = some x := by rw [e]; simp
          have hxm := ha x (by rw [e]; simp)
          rw [combM, List.length_append] at ho
          have hs : F.law12_choose_s1 (F.law12_choose_fu fu) a ((k + 1 : Nat) : Int) so (out, (pre.length : Int)) = some (.inl (out ++ combM (joinM so x) t k, ((pre.length + 1 : Nat) : Int))) := by
            unfold F.law12_choose_s1
            rw [if_pos (by simp; omega)]
            simp only [lidx_nat, hx, Option.bind_some]
            rw [both_eq (by simp only [maxL]; omega), Option.bind_some, both_eq (by simp only [maxL]; omega), Option.bind_some, hw, wi64 (by omega) (by omega)]
            have h5 := ih k t (pre ++ [x]) (joinM so x) out (by omega) (by omega) (by rw [e]; simp) (by simp only [joinM, List.length_append]; omega) (by omega)
            simp only [List.length_append, List.length_singleton] at h5
            rw [show ((pre.length : Int) + 1) = ((pre.length + 1 : Nat) : Int) by simp]
            rw [show (F.match_Match.mk (so.In ++ x.In) (so.Out ++ x.Out)) = joinM so x from rfl, h5]
            rfl
          have h6 := ih2 (pre ++ [x]) (out ++ combM (joinM so x) t k) (by rw [e]; simp) (by rw [List.length_append]; omega)
          unfold F.law12_choose_l1 at h6 ⊢
          simp only [List.length_append, List.length_singleton] at h6
          rw [iter_eq, hs, Option.bind_some]
          simp only [h6, combM, List.append_assoc]
      rw [key l pre out e hout]
      rfl
theorem choose_eq (a : List match_Match) (ha : Lens 10 a) (hl : a.length ≤ 7) (k : Nat) (hk : k ≤ 100) : F.law12_choose a 0 (k : Int) noM [] = some (combM noM a k) := by
  unfold F.law12_choose
  have h := choose_fu a ha hl 1000 k a [] noM [] (by omega) hk rfl (by simp; omega) (by have := comb128 hl k; simp; omega)
  simpa using h
theorem MatchTimes (a : List match_Match) (x y : Int) (ha : a.length ≤ 9223372036854775807 ∧ ∀ x ∈ a, q_match_Match x) (hx : -9223372036854775808 ≤ x ∧ x ≤ 9223372036854775807) (hy : -9223372036854775808 ≤ y ∧ y ≤ 9223372036854775807) : F.law12_MatchTimes a x y = some true := by
  unfold F.law12_MatchTimes
  simp only [head_ok, Option.bind_some, Bool.not_true, Bool.false_eq_true, if_false]
  rcases good_eq a 7 ha.1 with h | ⟨h, ga, la⟩
  · simp [h]
  · simp only [h, Option.bind_some, Bool.not_true, Bool.false_eq_true, if_false]
    obtain ⟨lo, hlo, elo⟩ := band_nat x 7 (by omega)
    obtain ⟨h1, hh1, eh1⟩ := band_nat y 15 (by omega)
    have elo' : band .i64 x 7 = (lo : Int) := elo
    have eh1' : band .i64 y 15 = (h1 : Int) := eh1
    have ha10 : Lens 10 a := fun m hm => by have := ga m hm; omega
    have hla : a.length ≤ 7 := by omega
    rw [elo', eh1', wi64 (n := (h1 : Int) - 1) (by omega) (by omega), wi64 (n := (h1 : Int) - 1 + 1) (by omega) (by omega), show ((h1 : Int) - 1 + 1) = (h1 : Int) by omega]
    have ht := times_eq a ha10 hla lo ((h1 : Int) - 1) (by omega) (by omega) (by omega)
    have hc := choose_eq a ha10 hla lo (by omega)
    have hc2 := choose_eq a ha10 hla h1 (by omega)
    have hto : ((h1 : Int) - 1 + 1).toNat = h1 := by omega
    rw [hto] at ht
    have l1 := comb128 hla lo
    have l2 := comb128 hla h1
    have hin : ∀ (k : Nat), k ≤ 100 → ∀ m ∈ combM noM a k, m.In.length ≤ maxI ∧ m.Out.length ≤ maxI := fun k hk m hm => by
      have := combM_lens (c := 10) a k noM 0 ha10 (by simp) m hm
      simp only [maxI]; omega
    by_cases b1 : (a.length : Int) ≤ (h1 : Int) - 1
    · rw [if_pos b1] at ht
      rw [ht, Option.bind_some, hc, Option.bind_some, if_neg (by simp; omega)]
      simp only [beq_self_eq_true, if_true]
      rw [same_refl _ (by simp only [maxI]; omega) (hin lo (by omega))]
      rfl
    · rw [if_neg b1] at ht
      by_cases b2 : (h1 : Int) - 1 < 0
      · rw [if_pos b2] at ht
        rw [ht, Option.bind_some, hc, Option.bind_some, if_pos (by simp; omega), if_pos (by simpa using b2)]
        simp
      · rw [if_neg b2] at ht
        rw [ht, Option.bind_some, hc, Option.bind_some, if_pos (by simp; omega), if_neg (by simpa using b2), hc2, Option.bind_some]
        rw [lnot_eq _ (fun m hm => by have := combM_lens (c := 10) a h1 noM 0 ha10 (by simp) m hm; omega) (by omega), Option.bind_some]
        cases hn : notL (combM noM a h1) [noM] with
        | none => simp
        | some r =>
          obtain ⟨g1, g2⟩ := notL_sizes _ _ r 0 hn (by simp [Lens]) (by simp)
          simp only [Bool.not_true, Bool.false_eq_true, if_false]
          rw [land_eq (combM noM a lo) r (fun m hm => by have := combM_lens (c := 10) a lo noM 0 ha10 (by simp) m hm; simp only [K]; omega) (fun m hm => by have := g1 m hm; simp only [K]; omega) (by omega) (by omega), Option.bind_some]
          by_cases b3 : 400 < (combM noM a lo).length * r.length
          · have b4 : decide ((combM noM a lo).length * r.length ≤ 400) = false := by simp; omega
            simp [b3, b4]
          · have b4 : decide ((combM noM a lo).length * r.length ≤ 400) = true := by simp; omega
            simp only [if_neg b3, b4, Bool.not_true, Bool.false_eq_true, if_false, beq_self_eq_true, if_true]
            rw [same_refl _ (by rw [andL_len]; simp only [maxI]; omega) (fun m hm => by
              have := andL_lens (combM_lens (c := 10) a lo noM 0 ha10 (by simp)) g1 m hm
              simp only [maxI]; omega)]
            rfl
end Go.Proofs.Ytihbdelgoapeoaa.T
