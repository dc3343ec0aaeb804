/- MatchWindows, plainly. -/
import Derived.Test.YtihbdelgoapeoaaTMW
namespace Go.Proofs.Ytihbdelgoapeoaa.T
open Go F
set_option linter.unusedVariables false
set_option linter.unusedSimpArgs false
set_option maxRecDepth 20000

theorem ranks_go (x : Int) {t30 t32 : List Int} (h : TextOk ⟨0, 1000, t30, t32⟩) : ∀ (m i : Nat), 40 - i = m → i ≤ 40 → F.law12_MatchWindows_l1 x t30 t32 (i : Int) = some (.inl ()) := by
  intro m
  induction m with
  | zero =>
    intro i h1 h2
    have hs : F.law12_MatchWindows_s1 x t30 t32 (i : Int) = some (.inr (.inl ())) := by
      unfold F.law12_MatchWindows_s1
      rw [if_neg (by simp; omega)]
    unfold F.law12_MatchWindows_l1
    rw [iter_eq, hs]
    rfl
  | succ m ih =>
    intro i h1 h2
    have hs : F.law12_MatchWindows_s1 x t30 t32 (i : Int) = some (.inl ((i + 1 : Nat) : Int)) := by
      unfold F.law12_MatchWindows_s1
      rw [if_pos (by simp; omega), rank1 h, rank2 h]
      simp only [Option.bind_some, bne_self_eq_false, Bool.false_eq_true, if_false]
      rw [wi64 (by omega) (by omega)]
      rfl
    have := ih (i + 1) (by omega) (by omega)
    unfold F.law12_MatchWindows_l1 at this ⊢
    rw [iter_eq, hs]
    exact this
theorem intoL_lens {a : List match_Match} (ga : GoodP a) (t : match_Text) (u n : Int) : ∀ m ∈ intoL t u n a, m.In.length ≤ maxI ∧ m.Out.length ≤ maxI := fun m hm => by
  have := outs_lens ga.lens m hm
  simp only [maxI]; omega
theorem MatchWindows (a : List match_Match) (b c : List Int) (x y : Int) (ha : a.length ≤ 9223372036854775807 ∧ ∀ x ∈ a, q_match_Match x) (hb : b.length ≤ 9223372036854775807 ∧ ∀ x ∈ b, (-9223372036854775808 ≤ x ∧ x ≤ 9223372036854775807))
    (hc : c.length ≤ 9223372036854775807 ∧ ∀ x ∈ c, (-9223372036854775808 ≤ x ∧ x ≤ 9223372036854775807)) (hx : -9223372036854775808 ≤ x ∧ x ≤ 9223372036854775807) (hy : -9223372036854775808 ≤ y ∧ y ≤ 9223372036854775807) : F.law12_MatchWindows a b c x y = some true := by
  unfold F.law12_MatchWindows
  simp only [head_ok, Option.bind_some, Bool.not_true, Bool.false_eq_true, if_false]
  rcases good_eq a 30 ha.1 with h | ⟨h, ga, la⟩
  · simp [h]
  · simp only [h, Option.bind_some, Bool.not_true, Bool.false_eq_true, if_false]
    obtain ⟨u1, e1, r1⟩ := up_ok b hb.1
    obtain ⟨u2, e2, r2⟩ := up_ok c hc.1
    have ht : TextOk ⟨0, 1000, u1, u2⟩ := ⟨r1, r2⟩
    have hl : a.length ≤ 1000 := by omega
    generalize hu : IntKind.wrap .i64 (Int.tmod (IntKind.wrap .u64 y) 3) = u
    rw [e1, Option.bind_some, e2, Option.bind_some, lapart_eq ga hl ht u, Option.bind_some]
    have hr : F.law12_MatchWindows_l1 y u1 u2 0 = some (.inl ()) := ranks_go y ht 40 0 (by omega) (by omega)
    rw [hr, Option.bind_some]
    simp only
    rw [window_eq ga hl ht u x, Option.bind_some, linto_eq ga hl ht u x, Option.bind_some, sameU_eq ga hl ht u, linto_eq ga hl ht u 1, apart_eq ga hl ht u]
    have n1 : ∀ n, (intoL ⟨0, 1000, u1, u2⟩ u n a).length ≤ maxI := fun n => by
      unfold intoL
      rw [List.length_map]
      exact Nat.le_trans (List.length_filter_le _ _) ha.1
    simp only [same_refl _ (n1 x) (intoL_lens ga _ u x), same_refl _ (n1 1) (intoL_lens ga _ u 1), Option.bind_some, if_true]
    rw [same_refl (apartL ⟨0, 1000, u1, u2⟩ u a) (Nat.le_trans (List.length_filter_le _ _) ha.1) (fun m hm => by have := ga m (List.mem_filter.1 hm).1; simp only [maxI]; omega)]
    rfl
end Go.Proofs.Ytihbdelgoapeoaa.T
