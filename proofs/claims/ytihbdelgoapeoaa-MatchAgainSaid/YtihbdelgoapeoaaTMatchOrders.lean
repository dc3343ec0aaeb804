/- MatchOrders, plainly. -/
import Derived.Test.YtihbdelgoapeoaaTMF
namespace Go.Proofs.Ytihbdelgoapeoaa.T
open Go F
set_option linter.unusedVariables false
set_option linter.unusedSimpArgs false
set_option maxRecDepth 20000

def inOrd (a b : match_Span) : Bool := a.Part == b.Part || (decide (a.Part < b.Part) == decide (a.From < b.From)) || a.From == b.From
theorem orders_1 (x y : match_Span) : F.law12_MatchOrders_1 x y = some (inOrd x y) := by
  unfold F.law12_MatchOrders_1 inOrd
  by_cases h : x.Part > y.Part
  · simp only [h, decide_true, if_true, Option.bind_some]
    congr 1
    rw [Bool.eq_iff_iff]
    have h1 : ¬ x.Part < y.Part := by omega
    simp [h1]
    omega
  · simp only [h, decide_false, Bool.false_eq_true, if_false, Option.bind_some]
    congr 1
    rw [Bool.eq_iff_iff]
    by_cases h1 : x.Part < y.Part
    · simp [h1]
      by_cases h2 : x.From < y.From
      · simp [h2]; omega
      · simp [h2]; omega
    · have : x.Part = y.Part := by omega
      simp [this]
theorem orders_2 (l : List match_Span) (hl : l.length ≤ maxI) (s : match_Span) (f : match_Span → match_Span → Option Bool) (hf : ∀ x y, f x y = some (inOrd x y)) : F.law12_MatchOrders_2 l s f = some (l.all fun x => inOrd x s) := by
  unfold F.law12_MatchOrders_2 F.law12_MatchOrders_2_l1
  refine find_all (l := l) (p := fun x => inOrd x s) ?_ ?_
  · intro i hi hx
    unfold F.law12_MatchOrders_2_s1
    simp only [lt_t hi, if_true, lidx_nat, hx, Option.bind_some, hf]
    rw [wi1 hi hl]
    split <;> rfl
  · unfold F.law12_MatchOrders_2_s1
    simp
theorem orders_3 (l : List match_Span) (hl : l.length ≤ maxI) (f : List match_Span → match_Span → Option Bool) (hf : ∀ s, f l s = some (l.all fun x => inOrd x s)) : F.law12_MatchOrders_3 l f = some (l.all fun s => l.all fun x => inOrd x s) := by
  unfold F.law12_MatchOrders_3 F.law12_MatchOrders_3_l1
  refine find_all (l := l) (p := fun s => l.all fun x => inOrd x s) ?_ ?_
  · intro i hi hx
    unfold F.law12_MatchOrders_3_s1
    simp only [lt_t hi, if_true, lidx_nat, hx, Option.bind_some, hf]
    rw [wi1 hi hl]
    split <;> rfl
  · unfold F.law12_MatchOrders_3_s1
    simp
theorem ordered_eq (a : List match_Match) (ha : Lens 100000 a) (hl : a.length ≤ maxL) : F.match_Ordered a = some ((a.filter fun m => m.In.all fun s => m.In.all fun x => inOrd x s).map fun m => ⟨m.In, m.Out.filter fun s => m.In.all fun x => inOrd x s⟩) := by
  unfold F.match_Ordered
  rw [keep_eq a (fun z0 => F.match_Ordered_1 z0) (fun m => (⟨m.In, m.Out.filter fun s => m.In.all fun x => inOrd x s⟩, m.In.all fun s => m.In.all fun x => inOrd x s)) (fun m hm => ?_) (fun m hm => ?_) hl]
  · rfl
  · have hi : m.In.length ≤ maxI := Nat.le_trans (ha m hm).1 (by decide)
    have h1 : ∀ s, F.match_Ordered_1_1 s m = some (m.In.all fun x => inOrd x s) := by
      intro s
      unfold F.match_Ordered_1_1
      rw [sindex_ok m.In _ (fun x => !inOrd x s) (fun x _ => ?_) hi]
      · simp [List.not_any_eq_all_not]
      · unfold F.match_Ordered_1_1_1 F.match_inOrder inOrd
        simp
    unfold F.match_Ordered_1
    rw [outs_eq m _ (fun s => m.In.all fun x => inOrd x s) (fun s _ => h1 s) (Nat.le_trans (ha m hm).2 (by decide)), Option.bind_some]
    rw [sindex_ok m.In _ (fun s => !(m.In.all fun x => inOrd x s)) (fun s _ => ?_) hi]
    · simp [List.not_any_eq_all_not]
    · unfold F.match_Ordered_1_2
      simp only [h1]
      rfl
  · have := ha m hm
    have h2 := List.length_filter_le (fun s => m.In.all fun x => inOrd x s) m.Out
    simp only [maxL]
    omega
theorem MatchOrders (a : List match_Match) (ha : a.length ≤ 9223372036854775807 ∧ ∀ x ∈ a, q_match_Match x) : F.law12_MatchOrders a = some true := by
  unfold F.law12_MatchOrders
  simp only [head_ok, Option.bind_some, Bool.not_true, Bool.false_eq_true, if_false]
  rcases good_eq a 30 ha.1 with h | ⟨h, ga, la⟩
  · simp [h]
  · simp only [h, Option.bind_some, Bool.not_true, Bool.false_eq_true, if_false]
    have a2 : Lens 100000 a := fun m hm => by have := ga m hm; omega
    have hi : ∀ m ∈ a, m.In.length ≤ maxI := fun m hm => Nat.le_trans (a2 m hm).1 (by decide)
    have e2 : ∀ m ∈ a, ∀ s, F.law12_MatchOrders_2 m.In s (fun z0 z1 => F.law12_MatchOrders_1 z0 z1) = some (m.In.all fun x => inOrd x s) := fun m hm s => orders_2 m.In (hi m hm) s _ orders_1
    rw [filter_eq a _ _ (fun l => l.all fun s => l.all fun x => inOrd x s) (fun l s => l.all fun x => inOrd x s) (fun m hm => orders_3 m.In (hi m hm) _ (e2 m hm)) (fun m hm s _ => e2 m hm s) a2 (by simp only [maxL]; omega)]
    rw [Option.bind_some, ordered_eq a a2 (by simp only [maxL]; omega), Option.bind_some, same_refl]
    · rfl
    · rw [List.length_map]; exact Nat.le_trans (List.length_filter_le _ _) ha.1
    · intro m hm
      have := outs_lens a2 m hm
      simp only [maxI]; omega
end Go.Proofs.Ytihbdelgoapeoaa.T
