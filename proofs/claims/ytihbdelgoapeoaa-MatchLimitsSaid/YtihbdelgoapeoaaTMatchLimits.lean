/- MatchLimits, plainly. -/
import Derived.Test.YtihbdelgoapeoaaTMB
namespace Go.Proofs.Ytihbdelgoapeoaa.T
open Go F
set_option linter.unusedVariables false
set_option linter.unusedSimpArgs false
set_option maxRecDepth 20000

theorem limits_l1 (n : Nat) (hn : n ≤ 1000) : ∃ l, F.law12_MatchLimits_1_l1 (n : Int) ([], 0) = some l ∧ l.length = n := by
  have key : ∀ (m i : Nat) (acc : List match_Span), n - i = m → i ≤ n → acc.length = i → ∃ l, F.law12_MatchLimits_1_l1 (n : Int) (acc, (i : Int)) = some l ∧ l.length = n := by
    intro m
    induction m with
    | zero =>
      intro i acc h1 h2 h3
      refine ⟨acc, ?_, by omega⟩
      have hs : F.law12_MatchLimits_1_s1 (n : Int) (acc, (i : Int)) = some (.inr acc) := by
        unfold F.law12_MatchLimits_1_s1
        rw [if_neg (by simp; omega)]
      unfold F.law12_MatchLimits_1_l1
      rw [iter_eq, hs]
      rfl
    | succ m ih =>
      intro i acc h1 h2 h3
      obtain ⟨l, g1, g2⟩ := ih (i + 1) (acc ++ [⟨(i : Int), (i : Int), 0, 0⟩]) (by omega) (by omega) (by simp; omega)
      refine ⟨l, ?_, g2⟩
      have hs : F.law12_MatchLimits_1_s1 (n : Int) (acc, (i : Int)) = some (.inl (acc ++ [⟨(i : Int), (i : Int), 0, 0⟩], ((i + 1 : Nat) : Int))) := by
        unfold F.law12_MatchLimits_1_s1
        rw [if_pos (by simp; omega), lapp_yes (by simp [maxL]; omega), Option.bind_some, wi64 (by simp only; omega) (by simp only; omega)]
        rfl
      unfold F.law12_MatchLimits_1_l1 at g1 ⊢
      rw [iter_eq, hs]
      exact g1
  exact key n 0 [] (by omega) (by omega) rfl
theorem limits_1 (n : Nat) (hn : n ≤ 1000) : ∃ l, F.law12_MatchLimits_1 (n : Int) = some l ∧ l.length = n ∧ Lens K l := by
  obtain ⟨l, h1, h2⟩ := limits_l1 n hn
  refine ⟨l.map fun s => ⟨[s], []⟩, ?_, by simpa using h2, fun m hm => ?_⟩
  · unfold F.law12_MatchLimits_1
    rw [h1, Option.bind_some, of_go l (by simp [maxL]; omega)]
    rfl
  · obtain ⟨s, _, rfl⟩ := List.mem_map.1 hm
    simp [K]
theorem lmake_yes {α : Type} (z : α) {n : Nat} (h : n ≤ 2147483648) : lmake z (n : Int) = some (List.replicate n z) := by
  unfold lmake
  rw [if_pos (by omega)]
  simp
theorem not_two (z : match_Span) (n m : Nat) (hn : n ≤ 1000) (hm : m ≤ 1000) : ∃ r, F.match_Not [⟨List.replicate n z, []⟩, ⟨List.replicate m z, []⟩] = some r ∧ ((n ≤ 400 ∧ n * m ≤ 400 ∧ r.2 = 0 ∧ r.1.length = n * m) ∨ (¬ (n ≤ 400 ∧ n * m ≤ 400) ∧ r.2 = 23)) := by
  have hl : Lens 10000 [⟨List.replicate n z, []⟩, ⟨List.replicate m z, []⟩] := fun x hx => by
    simp at hx
    rcases hx with rfl | rfl <;> simp <;> omega
  rw [not_eq _ hl (by simp)]
  have t1 : (turns ⟨List.replicate n z, []⟩).length = n := by simp [turns]
  have t2 : (turns ⟨List.replicate m z, []⟩).length = m := by simp [turns]
  have l1 : (andL [⟨[], []⟩] (turns ⟨List.replicate n z, []⟩)).length = n := by rw [andL_len, t1]; simp
  simp only [notL, t1, t2, l1]
  by_cases h1 : 400 < n
  · refine ⟨([], 23), ?_, .inr ⟨by omega, rfl⟩⟩
    simp [h1]
  · by_cases h2 : 400 < n * m
    · refine ⟨([], 23), ?_, .inr ⟨by omega, rfl⟩⟩
      simp [h1, h2]
    · refine ⟨(andL (andL [⟨[], []⟩] (turns ⟨List.replicate n z, []⟩)) (turns ⟨List.replicate m z, []⟩), 0), ?_, .inl ⟨by omega, by omega, rfl, by rw [andL_len, l1, t2]⟩⟩
      simp [h1, h2]
theorem MatchLimits (x y : Int) (hx : -9223372036854775808 ≤ x ∧ x ≤ 9223372036854775807) (hy : -9223372036854775808 ≤ y ∧ y ≤ 9223372036854775807) : F.law12_MatchLimits x y = some true := by
  unfold F.law12_MatchLimits
  simp only [head_ok, Option.bind_some, Bool.not_true, Bool.false_eq_true, if_false]
  obtain ⟨n, hn, en⟩ := band_nat x 511 (by omega)
  obtain ⟨m, hm, em⟩ := band_nat y 31 (by omega)
  have en' : band .i64 x 511 = (n : Int) := en
  have em' : band .i64 y 31 = (m : Int) := em
  obtain ⟨a, a1, a2, a3⟩ := limits_1 n (by omega)
  obtain ⟨b, b1, b2, b3⟩ := limits_1 m (by omega)
  have hmul : n * m ≤ 511 * 31 := Nat.mul_le_mul hn hm
  have e1 : IntKind.wrap .i64 ((n : Int) + (m : Int)) = ((n + m : Nat) : Int) := by rw [wi64 (by omega) (by omega)]; simp
  have e2 : IntKind.wrap .i64 ((n : Int) * (m : Int)) = ((n * m : Nat) : Int) := by
    rw [show (n : Int) * (m : Int) = ((n * m : Nat) : Int) by simp]
    generalize n * m = q at hmul
    exact wi64 (by omega) (by omega)
  obtain ⟨r, r1, r2⟩ := not_two ⟨0, 0, 0, 0⟩ n m (by omega) (by omega)
  rw [en', em', a1, Option.bind_some, b1, Option.bind_some, or_eq a b a3 b3 (by omega), Option.bind_some, Option.bind_some, Option.bind_some, and_eq a b a3 b3 (by simp only [maxI]; omega) (by omega), Option.bind_some]
  rw [lmake_yes _ (by omega), Option.bind_some, lmake_yes _ (by omega), Option.bind_some, r1, Option.bind_some, e1, e2, a2, b2]
  generalize hq : n * m = q at hmul r2
  have c1 : ∀ k : Nat, decide ((k : Int) ≤ 400) = decide (k ≤ 400) := fun k => by rw [Bool.eq_iff_iff]; simp; omega
  rw [c1, c1, c1]
  have hab : (a ++ b).length = n + m := by simp [a2, b2]
  have hand : (andL a b).length = q := by rw [andL_len, a2, b2, hq]
  have p1 : (if ((((if 400 < n + m then ([], 23) else (a ++ b, 0)) : List match_Match × Int).2 == 0) != decide (n + m ≤ 400)) = true then some true else some ((((if 400 < n + m then ([], 23) else (a ++ b, 0)) : List match_Match × Int).2 == 0) && (((((if 400 < n + m then ([], 23) else (a ++ b, 0)) : List match_Match × Int).1.length : Int)) != ((n + m : Nat) : Int)))) = some false := by
    by_cases h : 400 < n + m
    · have h' : ¬ n + m ≤ 400 := by omega
      simp [h, h']
    · have h' : n + m ≤ 400 := by omega
      simp [h, h', a2, b2]
  have p2 : ((((if 400 < n + m then ([], 23) else (a ++ b, 0)) : List match_Match × Int).2 != 0) && (((if 400 < n + m then ([], 23) else (a ++ b, 0)) : List match_Match × Int).2 != 23)) = false := by
    by_cases h : 400 < n + m
    · simp [h]
    · simp [h]
  have p3 : (if ((((if 400 < q then ([], 23) else (andL a b, 0)) : List match_Match × Int).2 == 0) != decide (q ≤ 400)) = true then some true else some ((((if 400 < q then ([], 23) else (andL a b, 0)) : List match_Match × Int).2 == 0) && (((((if 400 < q then ([], 23) else (andL a b, 0)) : List match_Match × Int).1.length : Int)) != (q : Int)))) = some false := by
    by_cases h : 400 < q
    · have h' : ¬ q ≤ 400 := by omega
      simp [h, h']
    · have h' : q ≤ 400 := by omega
      simp [h, h', hand]
  have p4 : ((((if 400 < q then ([], 23) else (andL a b, 0)) : List match_Match × Int).2 != 0) && (((if 400 < q then ([], 23) else (andL a b, 0)) : List match_Match × Int).2 != 23)) = false := by
    by_cases h : 400 < q
    · simp [h]
    · simp [h]
  rw [p1]
  simp only [Option.bind_some, Bool.false_eq_true, if_false, p2]
  rw [p3]
  simp only [Option.bind_some, Bool.false_eq_true, if_false, p4]
  rcases r2 with ⟨g1, g2, g3, g4⟩ | ⟨g1, g2⟩
  · simp [g1, g2, g3, g4]
  · have : (decide (n ≤ 400) && decide (q ≤ 400)) = false := by simp; omega
    simp [this, g2]
end Go.Proofs.Ytihbdelgoapeoaa.T
