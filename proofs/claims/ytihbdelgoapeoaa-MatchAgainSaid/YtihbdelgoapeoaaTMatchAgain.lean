/- MatchAgain, plainly. -/
import Derived.Test.YtihbdelgoapeoaaTMW
import Derived.Test.YtihbdelgoapeoaaTMatchOrders
import Derived.Test.YtihbdelgoapeoaaTMatchMild
namespace Go.Proofs.Ytihbdelgoapeoaa.T
open Go F
set_option linter.unusedVariables false
set_option linter.unusedSimpArgs false
set_option maxRecDepth 20000

/-- Those let through, without what must go. -/
def letL (p : List match_Span → Bool) (q : List match_Span → match_Span → Bool) (a : List match_Match) : List match_Match := (a.filter fun m => p m.In).map fun m => ⟨m.In, m.Out.filter (q m.In)⟩
theorem letL_twice (p : List match_Span → Bool) (q : List match_Span → match_Span → Bool) (a : List match_Match) : letL p q (letL p q a) = letL p q a := by
  unfold letL
  induction a with
  | nil => rfl
  | cons m t ih =>
    by_cases h : p m.In = true
    · simp only [List.filter_cons_of_pos (p := fun m : match_Match => p m.In) h, List.map_cons]
      rw [List.filter_cons_of_pos (p := fun m : match_Match => p m.In) (show p (match_Match.mk m.In (m.Out.filter (q m.In))).In = true from h), List.map_cons, ih]
      simp
    · simp only [List.filter_cons_of_neg (p := fun m : match_Match => p m.In) h]
      exact ih
theorem letL_good {p : List match_Span → Bool} {q : List match_Span → match_Span → Bool} {a : List match_Match} (ga : GoodP a) : GoodP (letL p q a) := by
  intro m hm
  obtain ⟨x, hx, rfl⟩ := List.mem_map.1 hm
  obtain ⟨g1, g2, g3⟩ := ga x (List.mem_filter.1 hx).1
  have h2 := List.length_filter_le (q x.In) x.Out
  refine ⟨g1, by simp only; omega, fun s hs => ?_⟩
  rcases List.mem_append.1 hs with h | h
  · exact g3 s (List.mem_append_left _ h)
  · exact g3 s (List.mem_append_right _ (List.mem_filter.1 h).1)
theorem letL_len (p : List match_Span → Bool) (q : List match_Span → match_Span → Bool) (a : List match_Match) : (letL p q a).length ≤ a.length := by
  unfold letL
  rw [List.length_map]
  exact List.length_filter_le _ _
theorem letL_mono {p p' : List match_Span → Bool} {q q' : List match_Span → match_Span → Bool} (h : ∀ l, p l = true → p' l = true) (a : List match_Match) : (letL p q a).length ≤ (letL p' q' a).length := by
  unfold letL
  rw [List.length_map, List.length_map]
  induction a with
  | nil => simp
  | cons m t ih =>
    by_cases h1 : p m.In = true
    · have h2 := h _ h1
      simp [h1, h2]; exact ih
    · by_cases h2 : p' m.In = true
      · simp [h1, h2]; omega
      · simp [h1, h2]; exact ih
theorem filter_twice {α : Type} (p : α → Bool) (l : List α) : (l.filter p).filter p = l.filter p := by
  rw [List.filter_filter]
  simp
theorem first_eq (t : match_Text) (a : List match_Match) (ha : Lens 100000 a) (hl : a.length ≤ 1000) : F.match_Text_First t a = some (a.filter fun m => m.In.any fun s => s.From == t.From) := by
  unfold F.match_Text_First
  rw [keep_eq a _ (fun m => (m, m.In.any fun s => s.From == t.From)) (fun m hm => ?_) (fun m hm => by have := ha m hm; simp only [maxL]; omega) (by simp only [maxL]; omega)]
  · simp only [Option.bind_some, List.map_id']
  · unfold F.match_Text_First_1
    rw [sindex_ok m.In (fun z0 => F.match_Text_First_1_1 z0 t) (fun s => s.From == t.From) (fun s _ => rfl) (by have := ha m hm; simp only [maxI]; omega)]
    rfl
theorem good_filter {a : List match_Match} (ga : GoodP a) (p : match_Match → Bool) : GoodP (a.filter p) := fun m hm => ga m (List.mem_filter.1 hm).1
theorem good_in {a : List match_Match} (ga : GoodP a) : ∀ m ∈ a, m.In.length ≤ maxI ∧ m.Out.length ≤ maxI := fun m hm => by have := ga m hm; simp only [maxI]; omega
theorem MatchAgain (a : List match_Match) (b : List Int) (x y : Int) (ha : a.length ≤ 9223372036854775807 ∧ ∀ x ∈ a, q_match_Match x) (hb : b.length ≤ 9223372036854775807 ∧ ∀ x ∈ b, (-9223372036854775808 ≤ x ∧ x ≤ 9223372036854775807))
    (hx : -9223372036854775808 ≤ x ∧ x ≤ 9223372036854775807) (hy : -9223372036854775808 ≤ y ∧ y ≤ 9223372036854775807) : F.law12_MatchAgain a b x y = some true := by
  unfold F.law12_MatchAgain
  simp only [head_ok, Option.bind_some, Bool.not_true, Bool.false_eq_true, if_false]
  rcases good_eq a 30 ha.1 with h | ⟨h, ga, la⟩
  · simp [h]
  · simp only [h, Option.bind_some, Bool.not_true, Bool.false_eq_true, if_false]
    obtain ⟨u1, e1, r1⟩ := up_ok b hb.1
    have ht : TextOk ⟨0, 30, u1, u1⟩ := ⟨r1, r1⟩
    have hl : a.length ≤ 1000 := by omega
    generalize hu : IntKind.wrap .i64 (Int.tmod (IntKind.wrap .u64 y) 3) = u
    obtain ⟨n, hn, en⟩ := band_nat x 31 (by omega)
    have en' : band .i64 x 31 = (n : Int) := en
    rw [e1, Option.bind_some, Option.bind_some, en', wi64 (n := (n : Int) + 1) (by omega) (by omega)]
    generalize hT : match_Text.mk 0 30 u1 u1 = T at ht
    have o1 : ∀ {c : List match_Match}, GoodP c → c.length ≤ 1000 → F.match_Ordered c = some (letL (fun l => l.all fun s => l.all fun x => inOrd x s) (fun l s => l.all fun x => inOrd x s) c) := fun gc hc => ordered_eq _ gc.lens (by simp only [maxL]; omega)
    have w1 : ∀ {c : List match_Match} (k v : Int), GoodP c → c.length ≤ 1000 → F.match_Text_Window T c k v = some (letL (fun l => decide (wideF T v l ≤ k)) (fun l s => decide (wideF T v (l ++ [s]) ≤ k)) c) := fun k v gc hc => window_eq gc hc ht v k
    have s1 : ∀ {c : List match_Match} (v : Int), GoodP c → c.length ≤ 1000 → F.match_Text_Same T c v = some (letL (fun l => decide (wideF T v l ≤ 1)) (fun l s => decide (wideF T v (l ++ [s]) ≤ 1)) c) := fun v gc hc => sameU_eq gc hc ht v
    have p1 : ∀ {c : List match_Match} (v : Int), GoodP c → c.length ≤ 1000 → F.match_Text_Apart T c v = some (apartL T v c) := fun v gc hc => apart_eq gc hc ht v
    have ap2 : apartL T u (apartL T u a) = apartL T u a := by unfold apartL; exact filter_twice _ _
    have gap : GoodP (apartL T u a) := good_filter ga _
    have lap : (apartL T u a).length ≤ a.length := List.length_filter_le _ _
    have ll := fun p q => letL_len p q a
    have refl : ∀ {c : List match_Match}, GoodP c → c.length ≤ 1000 → F.law12_Same c c = some true := fun gc hc => same_refl _ (by simp only [maxI]; omega) (good_in gc)
    rw [o1 ga hl, Option.bind_some, w1 _ _ ga hl, Option.bind_some, s1 _ ga hl, Option.bind_some, p1 _ ga hl, Option.bind_some]
    rw [o1 (letL_good ga) (Nat.le_trans (letL_len _ _ a) hl), letL_twice, Option.bind_some, refl (letL_good ga) (Nat.le_trans (letL_len _ _ a) hl), Option.bind_some]
    rw [w1 _ _ (letL_good ga) (Nat.le_trans (letL_len _ _ a) hl), letL_twice, s1 _ (letL_good ga) (Nat.le_trans (letL_len _ _ a) hl), letL_twice, p1 _ gap (by omega), ap2, w1 _ _ ga hl, w1 _ 0 ga hl, w1 _ 0 ga hl]
    simp only [Option.bind_some, if_true, refl (letL_good ga) (Nat.le_trans (letL_len _ _ a) hl), refl gap (Nat.le_trans lap hl)]
    have m1 : ∀ v, (letL (fun l => decide (wideF T v l ≤ (n : Int))) (fun l s => decide (wideF T v (l ++ [s]) ≤ (n : Int))) a).length ≤ (letL (fun l => decide (wideF T v l ≤ (n : Int) + 1)) (fun l s => decide (wideF T v (l ++ [s]) ≤ (n : Int) + 1)) a).length := fun v => letL_mono (fun l hl => by simp at hl ⊢; omega) a
    rw [if_pos (by have := m1 u; simp; omega), decide_eq_true (by have := m1 0; omega)]
    simp only [Option.bind_some, if_true]
    rw [mild_eq a [] (by simp only [maxL]; omega) (fun o ho => by have := ga o ho; simp only [maxL]; omega) (by simp) (fun o ho => by cases ho)]
    have lens2 : Lens 100000 (a.filter fun m => m.In.any fun s => s.From == T.From) := fun m hm => ga.lens m (List.mem_filter.1 hm).1
    have f2 := first_eq T _ lens2 (Nat.le_trans (List.length_filter_le _ _) hl)
    rw [filter_twice] at f2
    simp only [first_eq T a ga.lens hl, Option.bind_some, f2]
    simp
    rw [show (fun m : match_Match => m.In.all fun s => true) = fun _ => true from by funext m; simp, filter_all]
end Go.Proofs.Ytihbdelgoapeoaa.T
