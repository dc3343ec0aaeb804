/- MatchMild, plainly. -/
import Derived.Test.YtihbdelgoapeoaaTMA
namespace Go.Proofs.Ytihbdelgoapeoaa.T
open Go F
set_option linter.unusedVariables false
set_option linter.unusedSimpArgs false
set_option maxRecDepth 20000

def apartS (s t : match_Span) : Bool := decide (s.From < t.From) || decide (s.To > t.To)
theorem mild_l4 (s : match_Span) (o : match_Match) (h : o.In.length ≤ maxI) (ok : Bool) : F.law12_MatchMild_l4 s o (ok, 0) = some (ok && o.In.all (apartS s)) := by
  unfold F.law12_MatchMild_l4
  rw [iter_fold0 o.In (fun ok t => ok && apartS s t) (fun s => s) (fun _ _ => True) ?_ ?_ trivial]
  · rw [foldl_and]
  · intro i pre t x q e hp hi hx _ _
    refine ⟨?_, trivial⟩
    unfold F.law12_MatchMild_s4
    simp only [lt_t hi, if_true, lidx_nat, hx, Option.bind_some]
    rw [wi1 hi h]
    cases q <;> rfl
  · intro q _
    unfold F.law12_MatchMild_s4
    simp
theorem mild_l3 (b : List match_Match) (s : match_Span) (h : b.length ≤ maxI) (h2 : ∀ o ∈ b, o.In.length ≤ maxI) (ok : Bool) : F.law12_MatchMild_l3 b s (ok, 0) = some (ok && b.all fun o => o.In.all (apartS s)) := by
  unfold F.law12_MatchMild_l3
  rw [iter_fold0 b (fun ok o => ok && o.In.all (apartS s)) (fun s => s) (fun _ _ => True) ?_ ?_ trivial]
  · rw [foldl_and]
  · intro i pre t x q e hp hi hx hm _
    refine ⟨?_, trivial⟩
    unfold F.law12_MatchMild_s3
    simp only [lt_t hi, if_true, lidx_nat, hx, Option.bind_some]
    rw [wi1 hi h, mild_l4 s x (h2 x hm)]
    rfl
  · intro q _
    unfold F.law12_MatchMild_s3
    simp
theorem mild_l2 (b : List match_Match) (m : match_Match) (hm : m.In.length ≤ maxI) (h : b.length ≤ maxI) (h2 : ∀ o ∈ b, o.In.length ≤ maxI) (ok : Bool) : F.law12_MatchMild_l2 b m (ok, 0) = some (ok && m.In.all fun s => b.all fun o => o.In.all (apartS s)) := by
  unfold F.law12_MatchMild_l2
  rw [iter_fold0 m.In (fun ok s => ok && b.all fun o => o.In.all (apartS s)) (fun s => s) (fun _ _ => True) ?_ ?_ trivial]
  · rw [foldl_and]
  · intro i pre t x q e hp hi hx _ _
    refine ⟨?_, trivial⟩
    unfold F.law12_MatchMild_s2
    simp only [lt_t hi, if_true, lidx_nat, hx, Option.bind_some]
    rw [wi1 hi hm, mild_l3 b x h h2]
    rfl
  · intro q _
    unfold F.law12_MatchMild_s2
    simp
theorem mild_l1 (a b : List match_Match) (ha : a.length ≤ maxL) (ha2 : ∀ o ∈ a, o.In.length ≤ maxI) (h : b.length ≤ maxI) (h2 : ∀ o ∈ b, o.In.length ≤ maxI) :
    F.law12_MatchMild_l1 a b ([], 0) = some (a.filter fun m => m.In.all fun s => b.all fun o => o.In.all (apartS s)) := by
  unfold F.law12_MatchMild_l1
  rw [iter_fold0 a (fun acc m => acc ++ (if (m.In.all fun s => b.all fun o => o.In.all (apartS s)) then [m] else [])) (fun s => s) (fun pre s => s.length ≤ pre.length) ?_ ?_ (Nat.le_refl _)]
  · rw [foldl_app, flatMap_one (fun m : match_Match => m) (fun m : match_Match => m.In.all fun s => b.all fun o => o.In.all (apartS s))]
    simp
  · intro i pre t x q e hp hi hx hm hs
    unfold F.law12_MatchMild_s1
    simp only [lt_t hi, if_true, lidx_nat, hx, Option.bind_some]
    rw [wi1 hi (Nat.le_trans ha (by decide)), mild_l2 b x (ha2 x hm) h h2]
    simp only [Option.bind_some, Bool.true_and]
    by_cases hk : (x.In.all fun s => b.all fun o => o.In.all (apartS s)) = true
    · rw [if_pos hk, if_pos hk, lapp_yes (by simp only [List.length_singleton]; omega)]
      exact ⟨rfl, by simp; omega⟩
    · rw [if_neg hk, if_neg hk]
      exact ⟨by simp, by simp; omega⟩
  · intro q _
    unfold F.law12_MatchMild_s1
    simp
theorem mild_eq (a b : List match_Match) (ha : a.length ≤ maxL) (ha2 : ∀ o ∈ a, o.In.length ≤ maxL ∧ o.Out.length ≤ maxL) (h : b.length ≤ maxI) (h2 : ∀ o ∈ b, o.In.length ≤ maxI) :
    F.match_Mild a b = some (a.filter fun m => m.In.all fun s => b.all fun o => o.In.all (apartS s)) := by
  unfold F.match_Mild
  have h3 : ∀ s : match_Span, F.match_Mild_1 s b = some (b.any fun o => o.In.any fun t => !apartS s t) := by
    intro s
    unfold F.match_Mild_1
    rw [index_ok b _ (fun o => o.In.any fun t => !apartS s t) (fun o ho => ?_) h]
    · rfl
    · unfold F.match_Mild_1_1
      rw [sindex_ok o.In _ (fun t => !apartS s t) (fun t _ => ?_) (h2 o ho)]
      · rfl
      · unfold F.match_Mild_1_1_1 apartS
        simp only [Option.bind_some]
        congr 1
        rw [Bool.eq_iff_iff]
        simp
  rw [keep_eq a _ (fun m => (m, !(m.In.any fun s => b.any fun o => o.In.any fun t => !apartS s t))) (fun m hm => ?_) (fun m hm => ha2 m hm) ha]
  · simp only [Option.bind_some, List.map_id']
    congr 1
    apply List.filter_congr
    intro m hm
    rw [Bool.eq_iff_iff]
    simp only [List.all_eq_true, Bool.not_eq_true', List.any_eq_false, List.any_eq_true, Bool.not_eq_eq_eq_not, Bool.not_true, Bool.not_eq_true]
    constructor
    · intro g s hs o ho t ht
      have := g s hs
      cases hc : apartS s t with
      | true => rfl
      | false => exact absurd ⟨o, ho, t, ht, hc⟩ this
    · rintro g s hs ⟨o, ho, t, ht, hc⟩
      rw [g s hs o ho t ht] at hc
      cases hc
  · unfold F.match_Mild_2
    rw [sindex_ok m.In _ (fun s => b.any fun o => o.In.any fun t => !apartS s t) (fun s _ => h3 s) (Nat.le_trans (ha2 m hm).1 (by decide))]
    rfl
theorem MatchMild (a b : List match_Match) (ha : a.length ≤ 9223372036854775807 ∧ ∀ x ∈ a, q_match_Match x) (hb : b.length ≤ 9223372036854775807 ∧ ∀ x ∈ b, q_match_Match x) : F.law12_MatchMild a b = some true := by
  unfold F.law12_MatchMild
  simp only [head_ok, Option.bind_some, Bool.not_true, Bool.false_eq_true, if_false]
  rcases good_eq a 30 ha.1 with h | ⟨h, ga, la⟩
  · simp [h]
  · rcases good_eq b 30 hb.1 with h2 | ⟨h2, gb, lb⟩
    · simp [h, h2]
    · simp only [h, h2, Option.bind_some, Bool.not_true, Bool.false_eq_true, if_false]
      have a2 : ∀ o ∈ a, o.In.length ≤ maxL ∧ o.Out.length ≤ maxL := fun o ho => by have := ga o ho; simp only [maxL]; omega
      have b2 : ∀ o ∈ b, o.In.length ≤ maxI := fun o ho => by have := gb o ho; simp only [maxI]; omega
      rw [mild_l1 a b (by simp only [maxL]; omega) (fun o ho => by have := ga o ho; simp only [maxI]; omega) hb.1 b2, Option.bind_some, mild_eq a b (by simp only [maxL]; omega) a2 hb.1 b2, Option.bind_some]
      rw [same_refl _ (Nat.le_trans (List.length_filter_le _ _) ha.1) (fun m hm => by have := ga m (List.mem_filter.1 hm).1; simp only [maxI]; omega)]
      rfl
end Go.Proofs.Ytihbdelgoapeoaa.T
