/- In which unit a place is, plainly. -/
import Derived.Test.YtihbdelgoapeoaaTMF
namespace Go.Proofs.Ytihbdelgoapeoaa.T
open Go F
set_option linter.unusedVariables false
set_option linter.unusedSimpArgs false
set_option maxRecDepth 20000

theorem iter_conv {σ τ X : Type} (f : σ → τ) (g : τ → σ) (hg : ∀ s, g (f s) = s) {step : σ → Option (σ ⊕ X)} (s : σ) :
    iter step s = iter (fun q : τ => (step (g q)).map fun r => match r with | .inl z => .inl (f z) | .inr x => .inr x) (f s) := by
  have key : ∀ n s, iterN step n s = iterN (fun q : τ => (step (g q)).map fun r => match r with | .inl z => .inl (f z) | .inr x => .inr x) n (f s) := by
    intro n
    induction n with
    | zero => intro s; rfl
    | succ n ih =>
      intro s
      unfold iterN
      simp only [hg]
      cases h : step s with
      | none => rfl
      | some r =>
        cases r with
        | inl z => exact ih z
        | inr x => rfl
  apply Option.ext
  intro x
  rw [iter_some, iter_some]
  simp only [key]
/-- Numbers that rise. -/
def Rise (u : List Int) : Prop := u.Pairwise (· < ·) ∧ u.length ≤ 50
theorem up_go (l : List Int) (hl : l.length ≤ maxI) : ∀ (m i : Nat) (acc : List Int) (last : Int), 50 - i = m → i ≤ 50 → acc.length = i → acc.Pairwise (· < ·) → (∀ x ∈ acc, x ≤ last) → 0 ≤ last → last ≤ 16 * i →
    ∃ u, F.law12_up_l1 l (acc, last, (i : Int)) = some u ∧ Rise u := by
  have stop : ∀ (i : Nat) (acc : List Int) (last : Int), (¬ (i : Int) < l.length ∨ ¬ (i : Int) < 50) → F.law12_up_l1 l (acc, last, (i : Int)) = some acc := by
    intro i acc last h
    have hs : F.law12_up_s1 l (acc, last, (i : Int)) = some (.inr acc) := by
      unfold F.law12_up_s1
      have : (decide ((i : Int) < (l.length : Int)) && decide ((i : Int) < 50)) = false := by simp; omega
      simp only [this, Option.bind_some, Bool.false_eq_true, if_false]
    unfold F.law12_up_l1
    rw [iter_eq, hs]
    rfl
  intro m
  induction m with
  | zero =>
    intro i acc last h1 h2 h3 h4 h5 h6 h7
    exact ⟨acc, stop i acc last (.inr (by omega)), h4, by omega⟩
  | succ m ih =>
    intro i acc last h1 h2 h3 h4 h5 h6 h7
    by_cases hi : i < l.length
    · obtain ⟨b, hb, eb⟩ := band_nat (l[i]) 15 (by omega)
      have eb' : band .i64 l[i] 15 = (b : Int) := eb
      have hs : F.law12_up_s1 l (acc, last, (i : Int)) = some (.inl (acc ++ [last + (1 + (b : Int))], last + (1 + (b : Int)), ((i + 1 : Nat) : Int))) := by
        unfold F.law12_up_s1
        have : (decide ((i : Int) < (l.length : Int)) && decide ((i : Int) < 50)) = true := by simp; omega
        simp only [this, Option.bind_some, if_true, lidx_nat, List.getElem?_eq_getElem hi, eb']
        rw [wi64 (n := 1 + (b : Int)) (by omega) (by omega), wi64 (n := last + (1 + (b : Int))) (by omega) (by omega), lapp_yes (by simp [maxL]; omega), Option.bind_some, wi1 hi hl]
        rfl
      obtain ⟨u, g1, g2⟩ := ih (i + 1) (acc ++ [last + (1 + (b : Int))]) (last + (1 + (b : Int))) (by omega) (by omega) (by simp; omega) (by
          rw [List.pairwise_append]
          refine ⟨h4, by simp, fun x hx y hy => ?_⟩
          simp at hy
          have := h5 x hx
          omega) (by
          intro x hx
          rcases List.mem_append.1 hx with h | h
          · have := h5 x h; omega
          · simp at h; omega) (by omega) (by omega)
      refine ⟨u, ?_, g2⟩
      unfold F.law12_up_l1 at g1 ⊢
      rw [iter_eq, hs]
      exact g1
    · exact ⟨acc, stop i acc last (.inl (by omega)), h4, by omega⟩
theorem up_ok (l : List Int) (hl : l.length ≤ maxI) : ∃ u, F.law12_up l = some u ∧ Rise u := by
  obtain ⟨u, h1, h2⟩ := up_go l hl 50 0 [] 0 (by omega) (by omega) rfl (by simp) (by simp) (by omega) (by omega)
  refine ⟨u, ?_, h2⟩
  unfold F.law12_up
  have : F.law12_up_l1 l ([], 0, 0) = some u := h1
  rw [this]
  rfl
/-- How many are no greater. -/
def cnt (u : List Int) (x : Int) : Int := ((u.filter fun y => decide (y ≤ x)).length : Int)
theorem cnt_rng {u : List Int} (h : Rise u) (x : Int) : 0 ≤ cnt u x ∧ cnt u x ≤ 50 := by
  have := List.length_filter_le (fun y => decide (y ≤ x)) u
  have := h.2
  unfold cnt
  omega
theorem cnt_mono (u : List Int) {x y : Int} (h : x ≤ y) : cnt u x ≤ cnt u y := by
  unfold cnt
  have : (u.filter fun z => decide (z ≤ x)).length ≤ (u.filter fun z => decide (z ≤ y)).length := by
    induction u with
    | nil => simp
    | cons a t ih =>
      by_cases h1 : a ≤ x
      · have h2 : a ≤ y := by omega
        simp [h1, h2]; exact ih
      · by_cases h2 : a ≤ y
        · simp [h1, h2]; omega
        · simp [h1, h2]; exact ih
  omega
theorem lrank_eq (u : List Int) (x : Int) (h : Rise u) : F.law12_rank_k1 x u = some (cnt u x) := by
  unfold F.law12_rank_k1 F.law12_rank_l2
  have hl := h.2
  rw [iter_fold0 u (fun (n : Int) y => if y ≤ x then n + 1 else n) (fun s => s) (fun pre n => 0 ≤ n ∧ n ≤ pre.length) ?_ ?_ (by simp)]
  · rw [Option.bind_some]
    have : ∀ (l : List Int) (n : Int), l.foldl (fun (n : Int) y => if y ≤ x then n + 1 else n) n = n + cnt l x := by
      intro l
      induction l with
      | nil => intro n; simp [cnt]
      | cons a t ih =>
        intro n
        rw [List.foldl_cons, ih]
        unfold cnt
        by_cases h1 : a ≤ x
        · simp [h1]; omega
        · simp [h1]
    rw [this]
    simp
  · intro i pre t y n e hp hi hx _ hn
    unfold F.law12_rank_s2
    simp only [lt_t hi, if_true, lidx_nat, hx, Option.bind_some]
    rw [wi1 hi (by simp only [maxI]; omega)]
    by_cases h1 : y ≤ x
    · rw [if_pos (by simpa using h1), if_pos h1, wi64 (by omega) (by omega)]
      exact ⟨rfl, by simp; omega⟩
    · rw [if_neg (by simpa using h1), if_neg h1]
      exact ⟨rfl, by simp; omega⟩
  · intro n _
    unfold F.law12_rank_s2
    simp
theorem half {a b : Nat} (h : a + b ≤ 1000) : IntKind.wrap .i64 (bshr .u64 (IntKind.wrap .u64 (IntKind.wrap .i64 ((a : Int) + (b : Int)))) 1) = (((a + b) / 2 : Nat) : Int) := by
  rw [wi64 (n := (a : Int) + (b : Int)) (by omega) (by omega)]
  have h1 : IntKind.wrap .u64 ((a : Int) + (b : Int)) = (a : Int) + (b : Int) := by
    simp only [IntKind.wrap, IntKind.bits, IntKind.signed]
    simp
    omega
  rw [h1]
  have h2 : bshr .u64 ((a : Int) + (b : Int)) 1 = (((a + b) / 2 : Nat) : Int) := by
    unfold bshr
    simp only [IntKind.bits]
    rw [show (min (1 : Int).toNat 64) = 1 from rfl, Int.fdiv_eq_ediv_of_nonneg _ (by decide)]
    simp
  rw [h2]
  exact wi64 (by omega) (by omega)
theorem search_go (u : List Int) (x : Int) (h : Rise u) : ∀ (m lo hi : Nat), hi - lo = m → lo ≤ hi → hi ≤ u.length → (∀ j (hj : j < u.length), j < lo → u[j] < x) → (∀ j (hj : j < u.length), hi ≤ j → x ≤ u[j]) →
    ∃ p : Nat, p ≤ u.length ∧ F.slices_BinarySearch_int_int_l1 u x ((lo : Int), (hi : Int)) = some (p : Int) ∧ (∀ j (hj : j < u.length), j < p → u[j] < x) ∧ (∀ j (hj : j < u.length), p ≤ j → x ≤ u[j]) := by
  have hl := h.2
  intro m
  induction m using Nat.strongRecOn with
  | _ m ih =>
    intro lo hi h1 h2 h3 h4 h5
    by_cases hlt : lo < hi
    · have hmid : (lo + hi) / 2 < u.length := by omega
      have e : F.slices_BinarySearch_int_int_s1 u x ((lo : Int), (hi : Int)) = some (.inl (if u[(lo + hi) / 2] < x then ((((lo + hi) / 2 + 1 : Nat) : Int), (hi : Int)) else ((lo : Int), (((lo + hi) / 2 : Nat) : Int)))) := by
        unfold F.slices_BinarySearch_int_int_s1
        simp only
        rw [if_pos (by simp; omega), half (by omega), lidx_nat, List.getElem?_eq_getElem hmid, Option.bind_some]
        unfold F.cmp_Less_int F.cmp_isNaN_int
        simp only [bne_self_eq_false, Option.bind_some, Bool.false_eq_true, if_false, Bool.false_or]
        by_cases hc : u[(lo + hi) / 2] < x
        · rw [if_pos (by simpa using hc), if_pos hc, wi64 (by omega) (by omega)]
          simp
        · rw [if_neg (by simpa using hc), if_neg hc]
      have hord : ∀ (i j : Nat) (hi : i < u.length) (hj : j < u.length), i < j → u[i] < u[j] := fun i j hi hj hij => List.pairwise_iff_getElem.1 h.1 i j hi hj hij
      by_cases hc : u[(lo + hi) / 2] < x
      · obtain ⟨p, p1, p2, p3⟩ := ih (hi - ((lo + hi) / 2 + 1)) (by omega) ((lo + hi) / 2 + 1) hi rfl (by omega) h3 (fun j hj hjl => by
          by_cases hje : j = (lo + hi) / 2
          · subst hje; exact hc
          · have := hord j ((lo + hi) / 2) hj hmid (by omega); omega) h5
        refine ⟨p, p1, ?_, p3⟩
        unfold F.slices_BinarySearch_int_int_l1 at p2 ⊢
        rw [iter_eq, e, Option.bind_some]
        simp only [if_pos hc]
        exact p2
      · obtain ⟨p, p1, p2, p3⟩ := ih ((lo + hi) / 2 - lo) (by omega) lo ((lo + hi) / 2) rfl (by omega) (by omega) h4 (fun j hj hjl => by
          by_cases hje : j = (lo + hi) / 2
          · subst hje; omega
          · have := hord ((lo + hi) / 2) j hmid hj (by omega); omega)
        refine ⟨p, p1, ?_, p3⟩
        unfold F.slices_BinarySearch_int_int_l1 at p2 ⊢
        rw [iter_eq, e, Option.bind_some]
        simp only [if_neg hc]
        exact p2
    · have e : F.slices_BinarySearch_int_int_s1 u x ((lo : Int), (hi : Int)) = some (.inr (lo : Int)) := by
        unfold F.slices_BinarySearch_int_int_s1
        simp only
        rw [if_neg (by simp; omega)]
      refine ⟨lo, by omega, ?_, h4, fun j hj hjl => h5 j hj (by omega)⟩
      unfold F.slices_BinarySearch_int_int_l1
      rw [iter_eq, e]
      rfl
theorem cnt_at {u : List Int} {x : Int} (p : Nat) (hp : p ≤ u.length) (h1 : ∀ j (hj : j < u.length), j < p → u[j] ≤ x) (h2 : ∀ j (hj : j < u.length), p ≤ j → x < u[j]) : cnt u x = p := by
  unfold cnt
  have e : u = u.take p ++ u.drop p := (List.take_append_drop p u).symm
  rw [e, List.filter_append]
  have e1 : (u.take p).filter (fun y => decide (y ≤ x)) = u.take p := by
    rw [List.filter_eq_self]
    intro y hy
    obtain ⟨j, hj, rfl⟩ := List.mem_iff_getElem.1 hy
    rw [List.length_take] at hj
    rw [List.getElem_take]
    simpa using h1 j (by omega) (by omega)
  have e2 : (u.drop p).filter (fun y => decide (y ≤ x)) = [] := by
    rw [List.filter_eq_nil_iff]
    intro y hy
    obtain ⟨j, hj, rfl⟩ := List.mem_iff_getElem.1 hy
    rw [List.length_drop] at hj
    rw [List.getElem_drop]
    have := h2 (p + j) (by omega) (by omega)
    simp; omega
  rw [e1, e2]
  simp
  omega
theorem rank_eq (u : List Int) (x : Int) (h : Rise u) : F.token_Rank u x = some (cnt u x) := by
  have hl := h.2
  unfold F.token_Rank F.slices_BinarySearch_int_int
  obtain ⟨p, p1, p2, p3, p4⟩ := search_go u x h u.length 0 u.length (by omega) (by omega) (Nat.le_refl _) (fun j hj h => by omega) (fun j hj h => by omega)
  have p2' : F.slices_BinarySearch_int_int_l1 u x (0, (u.length : Int)) = some (p : Int) := p2
  rw [p2', Option.bind_some]
  have hord : ∀ (i j : Nat) (hi : i < u.length) (hj : j < u.length), i < j → u[i] < u[j] := fun i j hi hj hij => List.pairwise_iff_getElem.1 h.1 i j hi hj hij
  by_cases hp : p < u.length
  · rw [if_pos (by simp; omega), lidx_nat, List.getElem?_eq_getElem hp, Option.bind_some]
    by_cases he : u[p] = x
    · rw [if_pos (by simpa using he)]
      simp only [Option.bind_some, if_true]
      rw [wi64 (by omega) (by omega), cnt_at (p + 1) (by omega) (fun j hj hjp => by
        by_cases hjp2 : j = p
        · subst hjp2; omega
        · have := p3 j hj (by omega); omega) (fun j hj hjp => by have := hord p j hp hj (by omega); omega)]
      simp
    · rw [if_neg (by simpa using he), Option.bind_some]
      unfold F.slices_isNaN_int
      simp only [bne_self_eq_false, Option.bind_some, Bool.false_eq_true, if_false]
      rw [cnt_at p p1 (fun j hj hjp => by have := p3 j hj hjp; omega) (fun j hj hjp => by
        have h6 := p4 p hp (Nat.le_refl _)
        by_cases hjp2 : j = p
        · subst hjp2; omega
        · have := hord p j hp hj (by omega); omega)]
  · rw [if_neg (by simp; omega)]
    simp only [Option.bind_some, Bool.false_eq_true, if_false]
    rw [cnt_at p p1 (fun j hj hjp => by have := p3 j hj hjp; omega) (fun j hj hjp => by omega)]
/-- In which unit a place is. -/
def rk (t : match_Text) (u at_ : Int) : Int := if u = 1 then cnt t.Sentences at_ else if u = 2 then cnt t.Paragraphs at_ else at_
def TextOk (t : match_Text) : Prop := Rise t.Sentences ∧ Rise t.Paragraphs
theorem rank1 {t : match_Text} (h : TextOk t) (u at_ : Int) : F.match_Text_Rank t u at_ = some (rk t u at_) := by
  unfold F.match_Text_Rank rk
  rw [rank_eq _ _ h.1, rank_eq _ _ h.2]
  by_cases h1 : u = 1
  · simp [h1]
  · by_cases h2 : u = 2
    · simp [h2]
    · simp [h1, h2]
theorem rank2 {t : match_Text} (h : TextOk t) (u at_ : Int) : F.law12_rank t u at_ = some (rk t u at_) := by
  unfold F.law12_rank rk
  rw [lrank_eq _ _ h.1, lrank_eq _ _ h.2]
  by_cases h1 : u = 1
  · simp [h1]
  · by_cases h2 : u = 2
    · simp [h2]
    · simp [h1, h2]
theorem rk_rng {t : match_Text} (h : TextOk t) (u : Int) {a : Int} (h0 : 0 ≤ a) (h1 : a ≤ 1000) : 0 ≤ rk t u a ∧ rk t u a ≤ 1000 := by
  have := cnt_rng h.1 a
  have := cnt_rng h.2 a
  unfold rk
  split
  · omega
  · split <;> omega
theorem rk_mono (t : match_Text) (u : Int) {a b : Int} (h : a ≤ b) : rk t u a ≤ rk t u b := by
  unfold rk
  split
  · exact cnt_mono _ h
  · split
    · exact cnt_mono _ h
    · exact h
end Go.Proofs.Ytihbdelgoapeoaa.T
