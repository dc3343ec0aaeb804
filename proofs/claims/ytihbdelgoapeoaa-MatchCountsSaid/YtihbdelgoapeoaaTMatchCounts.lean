/- MatchCounts, plainly. -/
import Derived.Test.YtihbdelgoapeoaaTMT
namespace Go.Proofs.Ytihbdelgoapeoaa.T
open Go F
set_option linter.unusedVariables false
set_option linter.unusedSimpArgs false
set_option maxRecDepth 20000

theorem counts_l1 (x : Int) (n : Nat) (hn : n ≤ 7) (hx : band .i64 x 7 = (n : Int)) : ∃ l, F.law12_MatchCounts_l1 x ([], 0) = some l ∧ l.length = n := by
  have key : ∀ (m i : Nat) (acc : List match_Span), n - i = m → i ≤ n → acc.length = i → ∃ l, F.law12_MatchCounts_l1 x (acc, (i : Int)) = some l ∧ l.length = n := by
    intro m
    induction m with
    | zero =>
      intro i acc h1 h2 h3
      refine ⟨acc, ?_, by omega⟩
      have hs : F.law12_MatchCounts_s1 x (acc, (i : Int)) = some (.inr acc) := by
        unfold F.law12_MatchCounts_s1
        rw [hx, if_neg (by simp; omega)]
      unfold F.law12_MatchCounts_l1
      rw [iter_eq, hs]
      rfl
    | succ m ih =>
      intro i acc h1 h2 h3
      obtain ⟨l, g1, g2⟩ := ih (i + 1) (acc ++ [⟨(i : Int), (i : Int), 0, 0⟩]) (by omega) (by omega) (by simp; omega)
      refine ⟨l, ?_, g2⟩
      have hs : F.law12_MatchCounts_s1 x (acc, (i : Int)) = some (.inl (acc ++ [⟨(i : Int), (i : Int), 0, 0⟩], ((i + 1 : Nat) : Int))) := by
        unfold F.law12_MatchCounts_s1
        rw [hx, if_pos (by simp; omega), lapp_yes (by simp [maxL]; omega), Option.bind_some, wi64 (by simp only; omega) (by simp only; omega)]
        rfl
      unfold F.law12_MatchCounts_l1 at g1 ⊢
      rw [iter_eq, hs]
      exact g1
  exact key n 0 [] (by omega) (by omega) rfl
theorem comb_free : ∀ (l : List match_Match) (k : Nat) (so : match_Match), (∀ m ∈ l, freeM m = true) → freeM so = true → ∀ m ∈ combM so l k, freeM m = true
  | l, 0, so, _, hs, m, hm => by rw [combM_zero] at hm; simp at hm; subst hm; exact hs
  | [], k + 1, so, _, _, m, hm => by simp [combM] at hm
  | x :: t, k + 1, so, hl, hs, m, hm => by
    rw [combM] at hm
    have hx := hl x (by simp)
    have ht : ∀ m ∈ t, freeM m = true := fun m hm => hl m (by simp [hm])
    rcases List.mem_append.1 hm with h | h
    · refine comb_free t k _ ht ?_ m h
      simp [freeM] at hx hs
      simp [freeM, joinM, hx, hs]
    · exact comb_free t (k + 1) so ht hs m h
theorem comb_any (l : List match_Match) (k : Nat) (hl : ∀ m ∈ l, freeM m = true) : (combM noM l k).any freeM = decide (k ≤ l.length) := by
  by_cases h : k ≤ l.length
  · have h1 := combM_some l k noM h
    rw [decide_eq_true h, List.any_eq_true]
    cases he : combM noM l k with
    | nil => rw [he] at h1; simp at h1
    | cons m t => exact ⟨m, by simp, comb_free l k noM hl rfl m (by rw [he]; simp)⟩
  · rw [combM_none _ _ _ (by omega)]
    simp [h]
theorem MatchCounts (x y z : Int) (hx : -9223372036854775808 ≤ x ∧ x ≤ 9223372036854775807) (hy : -9223372036854775808 ≤ y ∧ y ≤ 9223372036854775807) (hz : -9223372036854775808 ≤ z ∧ z ≤ 9223372036854775807) : F.law12_MatchCounts x y z = some true := by
  unfold F.law12_MatchCounts
  simp only [head_ok, Option.bind_some, Bool.not_true, Bool.false_eq_true, if_false]
  obtain ⟨n, hn, en⟩ := band_nat x 7 (by omega)
  obtain ⟨lo, hlo, elo⟩ := band_nat y 7 (by omega)
  obtain ⟨d, hd, ed⟩ := band_nat z 7 (by omega)
  have en' : band .i64 x 7 = (n : Int) := en
  have elo' : band .i64 y 7 = (lo : Int) := elo
  have ed' : band .i64 z 7 = (d : Int) := ed
  obtain ⟨l, h1, h2⟩ := counts_l1 x n hn en'
  rw [h1, Option.bind_some, of_go l (by simp [maxL]; omega), Option.bind_some, en', elo', ed']
  have ew : IntKind.wrap .i64 ((lo : Int) + (d : Int)) = ((lo + d : Nat) : Int) := by rw [wi64 (by omega) (by omega)]; simp
  rw [ew]
  have hfree : ∀ m ∈ l.map (fun s => (⟨[s], []⟩ : match_Match)), freeM m = true := fun m hm => by
    obtain ⟨s, _, rfl⟩ := List.mem_map.1 hm
    rfl
  have hlen : (l.map (fun s => (⟨[s], []⟩ : match_Match))).length = n := by simpa using h2
  have hlens : Lens 10 (l.map (fun s => (⟨[s], []⟩ : match_Match))) := fun m hm => by
    obtain ⟨s, _, rfl⟩ := List.mem_map.1 hm
    simp
  generalize l.map (fun s => (⟨[s], []⟩ : match_Match)) = a at hfree hlen hlens
  have ht := times_eq a hlens (by omega) lo ((lo + d : Nat) : Int) (by omega) (by omega) (by omega)
  rw [hlen] at ht
  have hc := comb128 (a := a) (by omega) lo
  by_cases h3 : n ≤ lo + d
  · rw [if_pos (by omega)] at ht
    rw [ht, Option.bind_some]
    simp only
    rw [holds_eq _ (by simp only [maxI]; omega), comb_any a lo hfree, hlen]
    have h5 : ((n : Int) ≤ ((lo + d : Nat) : Int)) := by omega
    by_cases h4 : lo ≤ n
    · have h6 : ((n : Int) ≥ (lo : Int)) := by omega
      simp [h4, h5, h6]; omega
    · have h6 : ¬ ((n : Int) ≥ (lo : Int)) := by omega
      simp [h4, h5, h6]
  · rw [if_neg (by omega), if_neg (by omega)] at ht
    rw [ht, Option.bind_some]
    cases hnot : notL (combM noM a (((lo + d : Nat) : Int) + 1).toNat) [noM] with
    | none => rfl
    | some r =>
      obtain ⟨g1, g2⟩ := notL_sizes _ _ r 0 hnot (by simp [Lens]) (by simp)
      have hr := any_not _ _ r hnot
      rw [comb_any a _ hfree, hlen] at hr
      have hto : (((lo + d : Nat) : Int) + 1).toNat ≤ n := by omega
      simp only [hto, decide_true, Bool.not_true, Bool.and_false] at hr
      by_cases h4 : 400 < (combM noM a lo).length * r.length
      · simp only [if_pos h4]; rfl
      · simp only [if_neg h4]
        rw [holds_eq _ (by rw [andL_len]; simp only [maxI]; omega), any_and, hr]
        have h5 : ¬ ((n : Int) ≤ ((lo + d : Nat) : Int)) := by omega
        simp [h5]
        omega
end Go.Proofs.Ytihbdelgoapeoaa.T
