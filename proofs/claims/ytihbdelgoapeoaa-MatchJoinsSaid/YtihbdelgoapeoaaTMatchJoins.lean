/- MatchJoins, plainly. -/
import Derived.Test.YtihbdelgoapeoaaTMB
namespace Go.Proofs.Ytihbdelgoapeoaa.T
open Go F
set_option linter.unusedVariables false
set_option linter.unusedSimpArgs false
set_option maxRecDepth 20000

theorem joins_1 (l : List match_Match) (hl : l.length ≤ maxI) : F.law12_MatchJoins_1 l = some (l.any freeM) := by
  unfold F.law12_MatchJoins_1 F.law12_MatchJoins_1_l1
  have key := iter_find (step := F.law12_MatchJoins_1_s1 l) l.length (fun i => (l[i]?.map freeM).getD false) (fun i => (.inr true : Unit ⊕ Bool)) (.inl ()) ?_ ?_
  · rcases key with ⟨i, h1, h2, _, h3⟩ | ⟨h1, h2⟩
    · rw [h3]
      have : l.any freeM = true := List.any_eq_true.2 ⟨l[i], List.getElem_mem h1, by simpa [h1] using h2⟩
      rw [this]
      rfl
    · rw [h2]
      have : l.any freeM = false := by
        rw [List.any_eq_false]
        intro x hx
        obtain ⟨i, hi, rfl⟩ := List.mem_iff_getElem.1 hx
        have := h1 i hi
        simpa [hi] using this
      rw [this]
      rfl
  · intro i hi
    unfold F.law12_MatchJoins_1_s1
    have hx : l[i]? = some l[i] := List.getElem?_eq_getElem hi
    simp only [lt_t hi, if_true, lidx_nat, hx, Option.bind_some, Option.map_some, Option.getD_some]
    rw [wi1 hi hl]
    have e : (((l[i]).Out.length : Int) == 0) = freeM l[i] := by rw [Bool.eq_iff_iff]; simp [freeM]
    rw [e]
    cases freeM l[i] <;> rfl
  · unfold F.law12_MatchJoins_1_s1
    simp
theorem MatchJoins (a b : List match_Match) (ha : a.length ≤ 9223372036854775807 ∧ ∀ x ∈ a, q_match_Match x) (hb : b.length ≤ 9223372036854775807 ∧ ∀ x ∈ b, q_match_Match x) : F.law12_MatchJoins a b = some true := by
  unfold F.law12_MatchJoins
  simp only [head_ok, Option.bind_some, Bool.not_true, Bool.false_eq_true, if_false]
  rcases good_eq a 25 ha.1 with h | ⟨h, ga, la⟩
  · simp [h]
  · rcases good_eq b 25 hb.1 with h2 | ⟨h2, gb, lb⟩
    · simp [h, h2]
    · simp only [h, h2, Option.bind_some, Bool.not_true, Bool.false_eq_true, if_false]
      have a2 : Lens 5 a := fun o ho => ⟨(ga o ho).1, (ga o ho).2.1⟩
      have b2 : Lens 5 b := fun o ho => ⟨(gb o ho).1, (gb o ho).2.1⟩
      have up : ∀ {k l : Nat} {x : List match_Match}, k ≤ l → Lens k x → Lens l x := fun hk hx m hm => ⟨Nat.le_trans (hx m hm).1 hk, Nat.le_trans (hx m hm).2 hk⟩
      have aK : Lens K a := up (by simp [K]) a2
      have bK : Lens K b := up (by simp [K]) b2
      have hin : ∀ {x : List match_Match}, Lens K x → ∀ m ∈ x, m.In.length ≤ maxI ∧ m.Out.length ≤ maxI := fun hx m hm => by have := hx m hm; simp only [K, maxI] at *; omega
      have n50 : ¬ 400 < a.length + b.length := by omega
      have hmul : a.length * b.length ≤ 25 * 25 := Nat.mul_le_mul (by omega) (by omega)
      rw [or_eq a b aK bK (by omega), if_neg n50]
      simp only [Option.bind_some]
      rw [and_eq a b aK bK ha.1 (by omega), Option.bind_some, not_eq a (up (by simp) a2) (by omega), Option.bind_some, land_eq a b aK bK (by omega) (by omega), Option.bind_some, lnot_eq a (up (by simp) a2) (by omega), Option.bind_some]
      rw [holds_eq a ha.1, Option.bind_some, joins_1 a ha.1, Option.bind_some, joins_1 b hb.1]
      have habK : Lens K (a ++ b) := fun m hm => by
        rcases List.mem_append.1 hm with h | h
        · exact aK m h
        · exact bK m h
      rw [lapp_clone (by simp only [maxL]; omega), Option.bind_some, lapp_yes (by simp only [maxL]; omega), Option.bind_some, same_refl (a ++ b) (by simp [maxI]; omega) (hin habK), holds_eq (a ++ b) (by simp [maxI]; omega)]
      simp only [Option.bind_some, bne_self_eq_false, Bool.or_false, Bool.false_eq_true, if_false, Bool.not_true, List.any_append]
      have e1 : (if (a.any freeM) = true then some true else some (b.any freeM)) = some (a.any freeM || b.any freeM) := by cases a.any freeM <;> rfl
      rw [e1]
      simp only [Option.bind_some, bne_self_eq_false, Bool.false_eq_true, if_false]
      have hand : ∀ (w : Bool) , (if decide (a.length * b.length ≤ 400) = true then ((if (((if 400 < a.length * b.length then ([], 23) else (andL a b, 0)) : List match_Match × Int).2 != 0) = true then some true else ((F.law12_Same ((if 400 < a.length * b.length then ([], 23) else (andL a b, 0)) : List match_Match × Int).1 (andL a b)).bind fun x203 => some (!x203))).bind fun r205 => (if r205 = true then some true else ((F.match_Holds ((if 400 < a.length * b.length then ([], 23) else (andL a b, 0)) : List match_Match × Int).1).bind fun x207 => (if (a.any freeM) = true then (some (b.any freeM)) else some false).bind fun r213 => some (x207 != r213))).bind fun r215 => some r215) else some false) = some false := by
        intro _
        by_cases h4 : a.length * b.length ≤ 400
        · have h5 : ¬ 400 < a.length * b.length := by omega
          have e2 : (if (a.any freeM) = true then some (b.any freeM) else some false) = some (a.any freeM && b.any freeM) := by cases a.any freeM <;> rfl
          have hk : Lens K (andL a b) := up (by simp [K]) (andL_lens a2 b2)
          simp only [h4, h5, decide_true, if_true, if_false, bne_self_eq_false, Bool.false_eq_true]
          rw [same_refl (andL a b) (by rw [andL_len]; simp only [maxI]; omega) (hin hk), e2, holds_eq (andL a b) (by rw [andL_len]; simp only [maxI]; omega), any_and]
          simp
        · simp [h4]
      rw [hand true]
      have hand2 : (if (!decide (a.length * b.length ≤ 400)) = true then some (((if 400 < a.length * b.length then ([], 23) else (andL a b, 0)) : List match_Match × Int).2 != 23 || ((((if 400 < a.length * b.length then ([], 23) else (andL a b, 0)) : List match_Match × Int).1.length : Int) != 0)) else some false) = some false := by
        by_cases h4 : a.length * b.length ≤ 400
        · simp [h4]
        · have h5 : 400 < a.length * b.length := by omega
          simp [h4, h5]
      simp only [Option.bind_some, Bool.false_eq_true, if_false]
      rw [hand2]
      simp only [Option.bind_some, Bool.false_eq_true, if_false]
      cases hn : notL a [⟨[], []⟩] with
      | none => simp
      | some r =>
        have hs := notL_sizes a [⟨[], []⟩] r 0 hn (by simp [Lens]) (by simp)
        have hr : Lens K r := up (by simp only [K]; omega) hs.1
        have hf := any_not a [⟨[], []⟩] r hn
        simp only [beq_self_eq_true, Bool.and_self, if_true]
        rw [same_refl r (by simp only [maxI]; omega) (hin hr), holds_eq r (by simp only [maxI]; omega), hf]
        simp [freeM]
end Go.Proofs.Ytihbdelgoapeoaa.T
