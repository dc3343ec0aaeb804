/- Matches let through, plainly: the program's and the statement's. -/
import Derived.Test.YtihbdelgoapeoaaTMB
namespace Go.Proofs.Ytihbdelgoapeoaa.T
open Go F
set_option linter.unusedVariables false
set_option linter.unusedSimpArgs false
set_option maxRecDepth 20000

/-- A loop that ends with 'no' at the first one that isn't so. -/
theorem find_all {α : Type} {l : List α} {p : α → Bool} {step : Int → Option (Int ⊕ (Unit ⊕ Bool))}
    (hs : ∀ i (hi : i < l.length), l[i]? = some l[i] → step (i : Int) = some (if (!p l[i]) = true then .inr (.inr false) else .inl ((i : Int) + 1)))
    (hs2 : step (l.length : Int) = some (.inr (.inl ()))) :
    ((iter step 0).bind fun a => match a with | .inl p17 => some true | .inr p20 => some p20) = some (l.all p) := by
  have key := iter_find (step := step) l.length (fun i => (l[i]?.map fun x => !p x).getD false) (fun i => (.inr false : Unit ⊕ Bool)) (.inl ()) ?_ hs2
  · rcases key with ⟨i, h1, h2, _, h3⟩ | ⟨h1, h2⟩
    · rw [h3]
      have : l.all p = false := by
        rw [List.all_eq_false]
        exact ⟨l[i], List.getElem_mem h1, by simpa [h1] using h2⟩
      rw [this]
      rfl
    · rw [h2]
      have : l.all p = true := by
        rw [List.all_eq_true]
        intro x hx
        obtain ⟨i, hi, rfl⟩ := List.mem_iff_getElem.1 hx
        have := h1 i hi
        simpa [hi] using this
      rw [this]
      rfl
  · intro i hi
    have hx : l[i]? = some l[i] := List.getElem?_eq_getElem hi
    rw [hs i hi hx]
    simp only [hx, Option.map_some, Option.getD_some]
theorem iter_swap {S X : Type} {step : Int × S → Option ((Int × S) ⊕ X)} {s : S} {i : Int} :
    iter step (i, s) = iter (fun q : S × Int => (step (q.2, q.1)).map fun r => match r with | .inl z => .inl (z.2, z.1) | .inr x => .inr x) (s, i) := by
  have key : ∀ n s i, iterN step n (i, s) = iterN (fun q : S × Int => (step (q.2, q.1)).map fun r => match r with | .inl z => .inl (z.2, z.1) | .inr x => .inr x) n (s, i) := by
    intro n
    induction n with
    | zero => intro s i; rfl
    | succ n ih =>
      intro s i
      unfold iterN
      cases h : step (i, s) with
      | none => rfl
      | some r =>
        cases r with
        | inl z => exact ih z.2 z.1
        | inr x => rfl
  apply Option.ext
  intro x
  rw [iter_some, iter_some]
  simp only [key]
theorem outs_eq (m : match_Match) (f : match_Span → Option Bool) (p : match_Span → Bool) (hf : ∀ s ∈ m.Out, f s = some (p s)) (hl : m.Out.length ≤ maxL) : F.match_outs m f = some ⟨m.In, m.Out.filter p⟩ := by
  unfold F.match_outs F.match_outs_l1
  have hn : m.Out.length ≤ maxI := Nat.le_trans hl (by decide)
  rw [iter_fold0 m.Out (fun acc s => acc ++ (if p s then [s] else [])) (fun s => s) (fun pre s => s.length ≤ pre.length) ?_ ?_ (Nat.le_refl _)]
  · rw [foldl_app, flatMap_one (fun s : match_Span => s) p, Option.bind_some]
    simp
  · intro i pre t x s e hp hi hx hm hs
    unfold F.match_outs_s1
    simp only [lt_t hi, if_true, lidx_nat, hx, Option.bind_some, hf x hm]
    rw [wi1 hi hn]
    by_cases hk : p x = true
    · rw [if_pos hk, if_pos hk, lapp_yes (by simp only [List.length_singleton]; omega)]
      exact ⟨rfl, by simp; omega⟩
    · rw [if_neg hk, if_neg hk]
      exact ⟨by simp, by simp; omega⟩
  · intro s _
    unfold F.match_outs_s1
    simp
theorem filter_l2 (st : List match_Span → match_Span → Option Bool) (m : match_Match) (p : match_Span → Bool) (hf : ∀ s ∈ m.Out, st m.In s = some (p s)) (hl : m.Out.length ≤ maxL) :
    F.law12_filter_l2 st m (0, ⟨m.In, []⟩) = some ⟨m.In, m.Out.filter p⟩ := by
  unfold F.law12_filter_l2
  have hn : m.Out.length ≤ maxI := Nat.le_trans hl (by decide)
  rw [iter_swap]
  rw [iter_fold0 m.Out (fun (acc : match_Match) s => if p s then ⟨acc.In, acc.Out ++ [s]⟩ else acc) (fun s => s) (fun pre s => s.Out.length ≤ pre.length) ?_ ?_ (Nat.le_refl _)]
  · have : ∀ (l o : List match_Span), l.foldl (fun (acc : match_Match) s => if p s then ⟨acc.In, acc.Out ++ [s]⟩ else acc) ⟨m.In, o⟩ = ⟨m.In, o ++ l.filter p⟩ := by
      intro l
      induction l with
      | nil => intro o; simp
      | cons x t ih =>
        intro o
        rw [List.foldl_cons]
        by_cases h : p x = true
        · rw [if_pos h, ih, List.filter_cons_of_pos h]; simp
        · rw [if_neg h, ih, List.filter_cons_of_neg h]
    rw [this]
    rfl
  · intro i pre t x s e hp hi hx hm hs
    unfold F.law12_filter_s2
    simp only [lt_t hi, if_true, lidx_nat, hx, Option.bind_some, hf x hm]
    rw [wi1 hi hn]
    by_cases hk : p x = true
    · rw [if_pos hk, if_pos hk, lapp_yes (by simp only [List.length_singleton]; omega)]
      exact ⟨rfl, by simp; omega⟩
    · rw [if_neg hk, if_neg hk]
      exact ⟨rfl, by simp; omega⟩
  · intro s _
    unfold F.law12_filter_s2
    simp
theorem filter_eq (a : List match_Match) (ok : List match_Span → Option Bool) (st : List match_Span → match_Span → Option Bool) (okb : List match_Span → Bool) (p : List match_Span → match_Span → Bool)
    (hok : ∀ m ∈ a, ok m.In = some (okb m.In)) (hst : ∀ m ∈ a, ∀ s ∈ m.Out, st m.In s = some (p m.In s)) (ha : Lens 100000 a) (hl : a.length ≤ maxL) :
    F.law12_filter a ok st = some ((a.filter fun m => okb m.In).map fun m => ⟨m.In, m.Out.filter (p m.In)⟩) := by
  unfold F.law12_filter F.law12_filter_l1
  have hn : a.length ≤ maxI := Nat.le_trans hl (by decide)
  rw [iter_fold0 a (fun acc m => acc ++ (if okb m.In then [⟨m.In, m.Out.filter (p m.In)⟩] else [])) (fun s => s) (fun pre s => s.length ≤ pre.length) ?_ ?_ (Nat.le_refl _)]
  · rw [foldl_app, flatMap_one (fun m : match_Match => match_Match.mk m.In (m.Out.filter (p m.In))) (fun m => okb m.In), Option.bind_some]
    rfl
  · intro i pre t x s e hp hi hx hm hs
    unfold F.law12_filter_s1
    simp only [lt_t hi, if_true, lidx_nat, hx, Option.bind_some, hok x hm]
    rw [wi1 hi hn]
    by_cases hk : okb x.In = true
    · rw [if_neg (by simp [hk]), if_pos hk, filter_l2 st x (p x.In) (hst x hm) (Nat.le_trans (ha x hm).2 (by decide)), Option.bind_some, lapp_yes (by simp only [List.length_singleton]; omega)]
      exact ⟨rfl, by simp; omega⟩
    · rw [if_pos (by simp [hk]), if_neg hk]
      exact ⟨by simp, by simp; omega⟩
  · intro s _
    unfold F.law12_filter_s1
    simp
theorem outs_lens {a : List match_Match} {k : Nat} (ha : Lens k a) {q : match_Match → Bool} {p : match_Match → match_Span → Bool} : ∀ m ∈ (a.filter q).map fun m => (⟨m.In, m.Out.filter (p m)⟩ : match_Match), m.In.length ≤ k ∧ m.Out.length ≤ k := by
  intro m hm
  obtain ⟨x, hx, rfl⟩ := List.mem_map.1 hm
  have := ha x (List.mem_filter.1 hx).1
  have h2 := List.length_filter_le (p x) x.Out
  simp only
  omega
end Go.Proofs.Ytihbdelgoapeoaa.T
