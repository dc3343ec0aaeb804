/- Loops over lists, plainly. -/
import Derived.Test.YtihbdelgoapeoaaF0
namespace Go.Proofs.Ytihbdelgoapeoaa.T
open Go F
set_option linter.unusedVariables false
set_option linter.unusedSimpArgs false

abbrev maxI : Nat := 9223372036854775807
theorem wi1 {i n : Nat} (h : i < n) (hn : n ≤ maxI) : IntKind.wrap .i64 ((i : Int) + 1) = (i : Int) + 1 := by
  simp only [IntKind.wrap, IntKind.bits, IntKind.signed, maxI] at *
  simp
  omega
theorem lidx_nat {α : Type} (l : List α) (i : Nat) : lidx l (i : Int) = l[i]? := by simp [lidx]
theorem lapp_yes {α : Type} {a b : List α} (h : a.length + b.length ≤ maxL) : lapp a b = some (a ++ b) := if_pos h
theorem lapp_clone {α : Type} {b : List α} (h : b.length ≤ maxL) : lapp [] b = some b := by rw [lapp_yes (by simpa using h)]; rfl

/-- A loop that goes through a list and builds something up. -/
theorem iter_fold {S α X : Type} {step : S × Int → Option ((S × Int) ⊕ X)} (g : S → α → S) (fin : S → X) (Inv : List α → S → Prop) (all : List α)
    (hs : ∀ (i : Nat) (pre t : List α) (x : α) (s : S), all = pre ++ x :: t → pre.length = i → i < all.length → all[i]? = some x → x ∈ all → Inv pre s → step (s, (i : Int)) = some (.inl (g s x, (i : Int) + 1)) ∧ Inv (pre ++ [x]) (g s x))
    (he : ∀ s, Inv all s → step (s, (all.length : Int)) = some (.inr (fin s))) :
    ∀ (l pre : List α) (s : S), all = pre ++ l → Inv pre s → iter step (s, (pre.length : Int)) = some (fin (l.foldl g s))
  | [], pre, s, e, h => by
    obtain rfl : all = pre := by simpa using e
    rw [iter_eq, he s h]
    rfl
  | x :: t, pre, s, e, h => by
    have h1 := hs pre.length pre t x s e rfl (by rw [e]; simp) (by rw [e]; simp) (by rw [e]; simp) h
    have h2 := iter_fold g fin Inv all hs he t (pre ++ [x]) (g s x) (by rw [e]; simp) h1.2
    rw [iter_eq, h1.1, Option.bind_some]
    simp only [List.length_append, List.length_singleton] at h2
    rw [List.foldl_cons]
    exact_mod_cast h2
theorem iter_fold0 {S α X : Type} {step : S × Int → Option ((S × Int) ⊕ X)} (l : List α) (g : S → α → S) (fin : S → X) (Inv : List α → S → Prop)
    (hs : ∀ (i : Nat) (pre t : List α) (x : α) (s : S), l = pre ++ x :: t → pre.length = i → i < l.length → l[i]? = some x → x ∈ l → Inv pre s → step (s, (i : Int)) = some (.inl (g s x, (i : Int) + 1)) ∧ Inv (pre ++ [x]) (g s x))
    (he : ∀ s, Inv l s → step (s, (l.length : Int)) = some (.inr (fin s))) {s : S} (h0 : Inv [] s) : iter step (s, 0) = some (fin (l.foldl g s)) :=
  iter_fold g fin Inv l hs he l [] s rfl h0
/-- A loop that looks for something. -/
theorem iter_find {X : Type} {step : Int → Option (Int ⊕ X)} (n : Nat) (p : Nat → Bool) (r : Nat → X) (e : X)
    (hs : ∀ i : Nat, i < n → step (i : Int) = some (if p i then .inr (r i) else .inl ((i : Int) + 1))) (he : step (n : Int) = some (.inr e)) :
    (∃ i, i < n ∧ p i = true ∧ (∀ j, j < i → p j = false) ∧ iter step 0 = some (r i)) ∨ ((∀ i, i < n → p i = false) ∧ iter step 0 = some e) := by
  have key : ∀ (m i : Nat), n - i = m → i ≤ n → (∀ j, j < i → p j = false) →
      (∃ k, k < n ∧ p k = true ∧ (∀ j, j < k → p j = false) ∧ iter step (i : Int) = some (r k)) ∨ ((∀ i, i < n → p i = false) ∧ iter step (i : Int) = some e) := by
    intro m
    induction m with
    | zero =>
      intro i h1 h2 h3
      obtain rfl : i = n := by omega
      exact .inr ⟨h3, by rw [iter_eq, he]; rfl⟩
    | succ m ih =>
      intro i h1 h2 h3
      have hi : i < n := by omega
      by_cases hp : p i = true
      · refine .inl ⟨i, hi, hp, h3, ?_⟩
        rw [iter_eq, hs i hi, if_pos hp]
        rfl
      · have h4 := ih (i + 1) (by omega) (by omega) (fun j hj => by
          by_cases hji : j = i
          · subst hji; simpa using hp
          · exact h3 j (by omega))
        have e1 : iter step (i : Int) = iter step ((i + 1 : Nat) : Int) := by
          rw [iter_eq, hs i hi, if_neg hp]
          rfl
        rw [e1]
        exact h4
  have := key n 0 (by omega) (by omega) (by omega)
  exact this
/-- What a loop that may end early comes to. -/
def goE {S α X : Type} (g : S → α → S ⊕ X) (fin : S → X) : List α → S → X
  | [], s => fin s
  | x :: t, s => match g s x with
    | .inl s' => goE g fin t s'
    | .inr r => r
theorem iter_exit {S α X : Type} {step : S × Int → Option ((S × Int) ⊕ X)} (g : S → α → S ⊕ X) (fin : S → X) (Inv : List α → S → Prop) (all : List α)
    (hs : ∀ (i : Nat) (pre t : List α) (x : α) (s : S), all = pre ++ x :: t → pre.length = i → i < all.length → all[i]? = some x → x ∈ all → Inv pre s →
      step (s, (i : Int)) = some (match g s x with | .inl s' => .inl (s', (i : Int) + 1) | .inr r => .inr r) ∧ ∀ s', g s x = .inl s' → Inv (pre ++ [x]) s')
    (he : ∀ s, Inv all s → step (s, (all.length : Int)) = some (.inr (fin s))) :
    ∀ (l pre : List α) (s : S), all = pre ++ l → Inv pre s → iter step (s, (pre.length : Int)) = some (goE g fin l s)
  | [], pre, s, e, h => by
    obtain rfl : all = pre := by simpa using e
    rw [iter_eq, he s h]
    rfl
  | x :: t, pre, s, e, h => by
    have h1 := hs pre.length pre t x s e rfl (by rw [e]; simp) (by rw [e]; simp) (by rw [e]; simp) h
    rw [iter_eq, h1.1, Option.bind_some]
    cases hg : g s x with
    | inr r => simp [goE, hg]
    | inl s' =>
      have h2 := iter_exit g fin Inv all hs he t (pre ++ [x]) s' (by rw [e]; simp) (h1.2 s' hg)
      simp only [List.length_append, List.length_singleton] at h2
      simp only [goE, hg]
      exact_mod_cast h2
theorem iter_exit0 {S α X : Type} {step : S × Int → Option ((S × Int) ⊕ X)} (l : List α) (g : S → α → S ⊕ X) (fin : S → X) (Inv : List α → S → Prop)
    (hs : ∀ (i : Nat) (pre t : List α) (x : α) (s : S), l = pre ++ x :: t → pre.length = i → i < l.length → l[i]? = some x → x ∈ l → Inv pre s →
      step (s, (i : Int)) = some (match g s x with | .inl s' => .inl (s', (i : Int) + 1) | .inr r => .inr r) ∧ ∀ s', g s x = .inl s' → Inv (pre ++ [x]) s')
    (he : ∀ s, Inv l s → step (s, (l.length : Int)) = some (.inr (fin s))) {s : S} (h0 : Inv [] s) : iter step (s, 0) = some (goE g fin l s) :=
  iter_exit g fin Inv l hs he l [] s rfl h0
theorem flatMap_map {α β : Type} (f : α → β) : ∀ l : List α, (l.flatMap fun x => [f x]) = l.map f
  | [] => rfl
  | x :: t => by rw [List.flatMap_cons, flatMap_map f t]; rfl
theorem foldl_and {α : Type} (p : α → Bool) : ∀ (l : List α) (b : Bool), l.foldl (fun s x => s && p x) b = (b && l.all p)
  | [], b => by simp
  | x :: t, b => by rw [List.foldl_cons, foldl_and p t]; simp [Bool.and_assoc]
theorem foldl_app {α β : Type} (f : α → List β) : ∀ (l : List α) (b : List β), l.foldl (fun s x => s ++ f x) b = b ++ l.flatMap f
  | [], b => by simp
  | x :: t, b => by rw [List.foldl_cons, foldl_app f t]; simp
theorem flatMap_one {α β : Type} (f : α → β) (p : α → Bool) : ∀ l : List α, (l.flatMap fun x => if p x then [f x] else []) = (l.filter p).map f
  | [] => rfl
  | x :: t => by
    rw [List.flatMap_cons, flatMap_one f p t]
    by_cases h : p x <;> simp [h]
theorem flatMap_le {α β : Type} {f : α → List β} {k : Nat} : ∀ {l : List α}, (∀ x ∈ l, (f x).length ≤ k) → (l.flatMap f).length ≤ k * l.length
  | [], _ => by simp
  | x :: t, h => by
    have h1 := flatMap_le (l := t) fun y hy => h y (List.mem_cons_of_mem _ hy)
    have h2 := h x (List.mem_cons_self ..)
    simp only [List.flatMap_cons, List.length_append, List.length_cons, Nat.mul_add, Nat.mul_one]
    omega
end Go.Proofs.Ytihbdelgoapeoaa.T
