/- Matches, plainly: what is looked at, kept and held against each other. -/
import Derived.Test.YtihbdelgoapeoaaTA
import Derived.Test.YtihbdelgoapeoaaTL
import Derived.Test.YtihbdelgoapeoaaGQ
namespace Go.Proofs.Ytihbdelgoapeoaa.T
open Go F
set_option linter.unusedVariables false
set_option linter.unusedSimpArgs false
set_option maxRecDepth 20000

theorem band_nat (a : Int) (j : Nat) (hj : j ≤ 1000) : ∃ m : Nat, m ≤ j ∧ band .i64 a (j : Int) = (m : Int) := by
  refine ⟨(BitVec.ofInt 64 a &&& BitVec.ofInt 64 (j : Int)).toNat, ?_, ?_⟩
  · rw [BitVec.toNat_and]
    refine Nat.le_trans Nat.and_le_right ?_
    rw [BitVec.toNat_ofInt]
    omega
  · have h : (BitVec.ofInt 64 a &&& BitVec.ofInt 64 (j : Int)).toNat ≤ 1000 := by
      rw [BitVec.toNat_and]
      refine Nat.le_trans Nat.and_le_right ?_
      rw [BitVec.toNat_ofInt]
      omega
    show IntKind.wrap .i64 _ = _
    exact wi64 (by omega) (by show ((BitVec.ofInt 64 a &&& BitVec.ofInt 64 (j : Int)).toNat : Int) ≤ _; omega)
theorem lt_t {i n : Nat} (h : i < n) : decide ((i : Int) < (n : Int)) = true := by simp; exact h
theorem lt_f (n : Nat) : decide ((n : Int) < (n : Int)) = false := by simp
theorem of_go (l : List match_Span) (hl : l.length ≤ maxL) : F.match_Of l = some (l.map fun s => ⟨[s], []⟩) := by
  unfold F.match_Of F.match_Of_l1
  rw [iter_fold0 l (fun acc s => acc ++ [match_Match.mk [s] []]) (fun s => s) (fun pre s => s.length = pre.length) ?_ ?_ rfl]
  · simp only [Option.bind_some]
    rw [foldl_app, flatMap_map (fun s => match_Match.mk [s] [])]
    rfl
  · intro i pre t x s e hp hi hx _ hs
    unfold F.match_Of_s1
    have hn : l.length ≤ maxI := Nat.le_trans hl (by decide)
    simp only [lt_t hi, if_true, lidx_nat, hx, Option.bind_some]
    rw [lapp_yes (by simp only [List.length_singleton]; omega), wi1 hi hn]
    simp [hs]
  · intro s _
    unfold F.match_Of_s1
    simp
theorem index_ok (l : List match_Match) (f : match_Match → Option Bool) (p : match_Match → Bool) (hf : ∀ x ∈ l, f x = some (p x)) (hl : l.length ≤ maxI) :
    F.slices_ContainsFunc_match_Match_match_Match l f = some (l.any p) := by
  unfold F.slices_ContainsFunc_match_Match_match_Match F.slices_IndexFunc_match_Match_match_Match F.slices_IndexFunc_match_Match_match_Match_l1
  have key := iter_find (step := F.slices_IndexFunc_match_Match_match_Match_s1 l f) l.length (fun i => (l[i]?.map p).getD false) (fun i => (.inr (i : Int) : Unit ⊕ Int)) (.inl ()) ?_ ?_
  · rcases key with ⟨i, h1, h2, _, h3⟩ | ⟨h1, h2⟩
    · rw [h3]
      have : l.any p = true := List.any_eq_true.2 ⟨l[i], List.getElem_mem h1, by simpa [h1] using h2⟩
      rw [this]
      simp
    · rw [h2]
      have : l.any p = false := by
        rw [List.any_eq_false]
        intro x hx
        obtain ⟨i, hi, rfl⟩ := List.mem_iff_getElem.1 hx
        have := h1 i hi
        simpa [hi] using this
      rw [this]
      simp
  · intro i hi
    unfold F.slices_IndexFunc_match_Match_match_Match_s1
    have hx : l[i]? = some l[i] := List.getElem?_eq_getElem hi
    simp only [lt_t hi, if_true, lidx_nat, hx, Option.bind_some, hf l[i] (List.getElem_mem hi), Option.map_some, Option.getD_some]
    rw [wi1 hi hl]
    split <;> rfl
  · unfold F.slices_IndexFunc_match_Match_match_Match_s1
    simp
theorem sindex_ok (l : List match_Span) (f : match_Span → Option Bool) (p : match_Span → Bool) (hf : ∀ x ∈ l, f x = some (p x)) (hl : l.length ≤ maxI) :
    F.slices_ContainsFunc_match_Span_match_Span l f = some (l.any p) := by
  unfold F.slices_ContainsFunc_match_Span_match_Span F.slices_IndexFunc_match_Span_match_Span F.slices_IndexFunc_match_Span_match_Span_l1
  have key := iter_find (step := F.slices_IndexFunc_match_Span_match_Span_s1 l f) l.length (fun i => (l[i]?.map p).getD false) (fun i => (.inr (i : Int) : Unit ⊕ Int)) (.inl ()) ?_ ?_
  · rcases key with ⟨i, h1, h2, _, h3⟩ | ⟨h1, h2⟩
    · rw [h3]
      have : l.any p = true := List.any_eq_true.2 ⟨l[i], List.getElem_mem h1, by simpa [h1] using h2⟩
      rw [this]
      simp
    · rw [h2]
      have : l.any p = false := by
        rw [List.any_eq_false]
        intro x hx
        obtain ⟨i, hi, rfl⟩ := List.mem_iff_getElem.1 hx
        have := h1 i hi
        simpa [hi] using this
      rw [this]
      simp
  · intro i hi
    unfold F.slices_IndexFunc_match_Span_match_Span_s1
    have hx : l[i]? = some l[i] := List.getElem?_eq_getElem hi
    simp only [lt_t hi, if_true, lidx_nat, hx, Option.bind_some, hf l[i] (List.getElem_mem hi), Option.map_some, Option.getD_some]
    rw [wi1 hi hl]
    split <;> rfl
  · unfold F.slices_IndexFunc_match_Span_match_Span_s1
    simp
theorem holds_eq (l : List match_Match) (hl : l.length ≤ maxI) : F.match_Holds l = some (l.any fun m => m.Out.length == 0) := by
  unfold F.match_Holds
  rw [index_ok l _ (fun m => m.Out.length == 0) (fun x _ => ?_) hl]
  · rfl
  · unfold F.match_Holds_1
    congr 1
    rw [Bool.eq_iff_iff]
    simp

/-- Places that are right, few spans, few matches. -/
def okSp (s : match_Span) : Prop := 0 ≤ s.From ∧ s.From ≤ s.To ∧ s.To ≤ 1000
def GoodP (a : List match_Match) : Prop := ∀ m ∈ a, m.In.length ≤ 5 ∧ m.Out.length ≤ 5 ∧ ∀ s ∈ m.In ++ m.Out, okSp s
theorem good2 (l : List match_Span) (hl : l.length ≤ maxI) : F.law12_Good_l2 l 0 = some (.inr false) ∨ (F.law12_Good_l2 l 0 = some (.inl ()) ∧ ∀ s ∈ l, okSp s) := by
  unfold F.law12_Good_l2
  have key := iter_find (step := F.law12_Good_s2 l) l.length (fun i => (l[i]?.map fun s => decide (s.From < 0) || decide (s.To < s.From) || decide (s.To > 1000)).getD false) (fun _ => (.inr false : Unit ⊕ Bool)) (.inl ()) ?_ ?_
  · rcases key with ⟨i, h1, h2, _, h3⟩ | ⟨h1, h2⟩
    · exact .inl h3
    · refine .inr ⟨h2, fun x hx => ?_⟩
      obtain ⟨i, hi, rfl⟩ := List.mem_iff_getElem.1 hx
      have := h1 i hi
      simp only [List.getElem?_eq_getElem hi, Option.map_some, Option.getD_some, Bool.or_eq_false_iff, decide_eq_false_iff_not] at this
      unfold okSp
      omega
  · intro i hi
    unfold F.law12_Good_s2
    have hx : l[i]? = some l[i] := List.getElem?_eq_getElem hi
    simp only [lt_t hi, if_true, lidx_nat, hx, Option.bind_some, Option.map_some, Option.getD_some]
    rw [wi1 hi hl]
    split <;> rfl
  · unfold F.law12_Good_s2
    simp
theorem good_eq (a : List match_Match) (n : Int) (hl : a.length ≤ maxI) : F.law12_Good a n = some false ∨ (F.law12_Good a n = some true ∧ GoodP a ∧ (a.length : Int) ≤ n) := by
  unfold F.law12_Good F.law12_Good_l1
  have key := iter_find (step := F.law12_Good_s1 a) a.length (fun i => (a[i]?.map fun m => decide ((m.In.length : Int) > 5) || decide ((m.Out.length : Int) > 5) || (F.law12_Good_l2 (m.In ++ m.Out) 0 == some (.inr false))).getD false) (fun _ => (.inr false : Unit ⊕ Bool)) (.inl ()) ?_ ?_
  · rcases key with ⟨i, h1, h2, _, h3⟩ | ⟨h1, h2⟩
    · rw [h3]; exact .inl rfl
    · rw [h2, Option.bind_some]
      by_cases hn : (a.length : Int) ≤ n
      · refine .inr ⟨by simp [hn], fun x hx => ?_, hn⟩
        obtain ⟨i, hi, rfl⟩ := List.mem_iff_getElem.1 hx
        have := h1 i hi
        simp only [List.getElem?_eq_getElem hi, Option.map_some, Option.getD_some, Bool.or_eq_false_iff, decide_eq_false_iff_not] at this
        obtain ⟨⟨g1, g2⟩, g3⟩ := this
        refine ⟨by omega, by omega, ?_⟩
        rcases good2 (a[i].In ++ a[i].Out) (by simp [maxI]; omega) with h | ⟨_, h⟩
        · rw [h] at g3; exact absurd g3 (by decide)
        · exact h
      · exact .inl (by simp [hn])
  · intro i hi
    unfold F.law12_Good_s1
    have hx : a[i]? = some a[i] := List.getElem?_eq_getElem hi
    simp only [lt_t hi, if_true, lidx_nat, hx, Option.bind_some, Option.map_some, Option.getD_some]
    by_cases h5 : (decide (((a[i]).In.length : Int) > 5) || decide (((a[i]).Out.length : Int) > 5)) = true
    · simp [h5]
    · simp only [h5, Bool.false_eq_true, if_false]
      simp only [Bool.or_eq_true, decide_eq_true_eq] at h5
      rw [lapp_clone (by simp [maxL]; omega), Option.bind_some, lapp_yes (by simp only [maxL]; omega), Option.bind_some]
      rcases good2 (a[i].In ++ a[i].Out) (by simp [maxI]; omega) with h | ⟨h, _⟩
      · rw [h]; simp; rfl
      · rw [h, wi1 hi hl]; simp; rfl
  · unfold F.law12_Good_s1
    simp
theorem spans_eq (x y : List match_Span) (hx : x.length ≤ maxI) : F.law12_spans x y = some (decide (x = y)) := by
  unfold F.law12_spans
  by_cases hn : x.length = y.length
  · have h0 : ((x.length : Int) != (y.length : Int)) = false := by simp [hn]
    simp only [h0, Bool.false_eq_true, if_false]
    unfold F.law12_spans_l1
    have key := iter_find (step := F.law12_spans_s1 x y) x.length (fun i => !decide (x[i]? = y[i]?)) (fun _ => (.inr false : Unit ⊕ Bool)) (.inl ()) ?_ ?_
    · rcases key with ⟨i, h1, h2, _, h3⟩ | ⟨h1, h2⟩
      · rw [h3]
        have : ¬ (x = y) := fun e => by subst e; simp at h2
        simp [this]
      · rw [h2]
        have : x = y := by
          apply List.ext_getElem? 
          intro i
          by_cases hi : i < x.length
          · simpa using h1 i hi
          · rw [List.getElem?_eq_none (by omega), List.getElem?_eq_none (by omega)]
        simp [this]
    · intro i hi
      unfold F.law12_spans_s1
      have h1 : x[i]? = some x[i] := List.getElem?_eq_getElem hi
      have h2 : y[i]? = some (y[i]'(by omega)) := List.getElem?_eq_getElem (by omega)
      simp only [lt_t hi, if_true, lidx_nat, h1, h2, Option.bind_some, Option.some.injEq]
      rw [wi1 hi hx]
      split <;> rfl
    · unfold F.law12_spans_s1
      simp
  · have h0 : ((x.length : Int) != (y.length : Int)) = true := by simp; omega
    have : ¬ (x = y) := fun e => hn (by rw [e])
    simp [h0, this]
theorem same_eq (x y : List match_Match) (hx : x.length ≤ maxI) (hm : ∀ m ∈ x, m.In.length ≤ maxI ∧ m.Out.length ≤ maxI) : F.law12_Same x y = some (decide (x = y)) := by
  unfold F.law12_Same
  by_cases hn : x.length = y.length
  · have h0 : ((x.length : Int) != (y.length : Int)) = false := by simp [hn]
    simp only [h0, Bool.false_eq_true, if_false]
    unfold F.law12_Same_l1
    have key := iter_find (step := F.law12_Same_s1 x y) x.length (fun i => !decide (x[i]? = y[i]?)) (fun _ => (.inr false : Unit ⊕ Bool)) (.inl ()) ?_ ?_
    · rcases key with ⟨i, h1, h2, _, h3⟩ | ⟨h1, h2⟩
      · rw [h3]
        have : ¬ (x = y) := fun e => by subst e; simp at h2
        simp [this]
      · rw [h2]
        have : x = y := by
          apply List.ext_getElem? 
          intro i
          by_cases hi : i < x.length
          · simpa using h1 i hi
          · rw [List.getElem?_eq_none (by omega), List.getElem?_eq_none (by omega)]
        simp [this]
    · intro i hi
      unfold F.law12_Same_s1
      have h1 : x[i]? = some x[i] := List.getElem?_eq_getElem hi
      have h2 : y[i]? = some (y[i]'(by omega)) := List.getElem?_eq_getElem (by omega)
      have h3 := hm x[i] (List.getElem_mem hi)
      simp only [lt_t hi, if_true, lidx_nat, h1, h2, Option.bind_some, Option.some.injEq, spans_eq _ _ h3.1, spans_eq _ _ h3.2]
      rw [wi1 hi hx]
      have e : (x[i] = y[i]'(by omega)) ↔ ((x[i]).In = (y[i]'(by omega)).In ∧ (x[i]).Out = (y[i]'(by omega)).Out) := by
        constructor
        · intro e; rw [e]; exact ⟨rfl, rfl⟩
        · rintro ⟨e1, e2⟩
          cases h : x[i]
          cases h' : y[i]'(by omega)
          rw [h, h'] at e1 e2
          simp at e1 e2
          rw [e1, e2]
      by_cases e1 : (x[i]).In = (y[i]'(by omega)).In
      · by_cases e2 : (x[i]).Out = (y[i]'(by omega)).Out
        · have : x[i] = y[i]'(by omega) := e.2 ⟨e1, e2⟩
          simp [e1, e2, this]
        · have : ¬ (x[i] = y[i]'(by omega)) := fun h => e2 (e.1 h).2
          simp [e1, e2, this]
      · have : ¬ (x[i] = y[i]'(by omega)) := fun h => e1 (e.1 h).1
        simp [e1, this]
    · unfold F.law12_Same_s1
      simp
  · have h0 : ((x.length : Int) != (y.length : Int)) = true := by simp; omega
    have : ¬ (x = y) := fun e => hn (by rw [e])
    simp [h0, this]
theorem same_refl (x : List match_Match) (hx : x.length ≤ maxI) (hm : ∀ m ∈ x, m.In.length ≤ maxI ∧ m.Out.length ≤ maxI) : F.law12_Same x x = some true := by
  rw [same_eq x x hx hm]; simp
theorem keep_eq (a : List match_Match) (f : match_Match → Option (match_Match × Bool)) (g : match_Match → match_Match × Bool) (hf : ∀ m ∈ a, f m = some (g m))
    (hg : ∀ m ∈ a, (g m).1.In.length ≤ maxL ∧ (g m).1.Out.length ≤ maxL) (hl : a.length ≤ maxL) :
    F.match_keep a f = some ((a.filter fun m => (g m).2).map fun m => (g m).1) := by
  unfold F.match_keep F.match_keep_l1
  have hn : a.length ≤ maxI := Nat.le_trans hl (by decide)
  rw [iter_fold0 a (fun acc m => acc ++ (if (g m).2 then [(g m).1] else [])) (fun s => s) (fun pre s => s.length ≤ pre.length) ?_ ?_ (Nat.le_refl _)]
  · simp only [Option.bind_some]
    rw [foldl_app, flatMap_one (fun m => (g m).1) (fun m => (g m).2)]
    rfl
  · intro i pre t x s e hp hi hx hm hs
    unfold F.match_keep_s1
    simp only [lt_t hi, if_true, lidx_nat, hx, Option.bind_some, hf x hm]
    rw [wi1 hi hn]
    by_cases hk : (g x).2 = true
    · simp only [hk, if_true, F.slices_Clone_match_Span_match_Span]
      rw [lapp_clone (hg x hm).1, Option.bind_some, lapp_clone (hg x hm).2, Option.bind_some, lapp_yes (by simp only [List.length_singleton]; omega)]
      simp; omega
    · simp [hk]; omega
  · intro s _
    unfold F.match_keep_s1
    simp
def joinM (x y : match_Match) : match_Match := ⟨x.In ++ y.In, x.Out ++ y.Out⟩
def andL (a b : List match_Match) : List match_Match := a.flatMap fun x => b.map (joinM x)
def turns (m : match_Match) : List match_Match := (m.In.map fun s => ⟨[], [s]⟩) ++ m.Out.map fun s => ⟨[s], []⟩
/-- Members are no longer than this. -/
def Lens (k : Nat) (a : List match_Match) : Prop := ∀ m ∈ a, m.In.length ≤ k ∧ m.Out.length ≤ k
theorem andL_len (a b : List match_Match) : (andL a b).length = a.length * b.length := by
  unfold andL
  induction a with
  | nil => simp
  | cons x t ih => simp only [List.flatMap_cons, List.length_append, List.length_map, ih, List.length_cons, Nat.add_mul]; omega
theorem andL_lens {a b : List match_Match} {k l : Nat} (ha : Lens k a) (hb : Lens l b) : Lens (k + l) (andL a b) := by
  intro m hm
  unfold andL at hm
  simp only [List.mem_flatMap, List.mem_map] at hm
  obtain ⟨x, h1, y, h2, rfl⟩ := hm
  have := ha x h1
  have := hb y h2
  simp only [joinM, List.length_append]
  omega
theorem lcat_two {α : Type} {a b : List α} (h : a.length + b.length ≤ maxL) : lcat [a, b] = some (a ++ b) := by
  unfold lcat
  rw [if_pos (by simp [maxL] at h ⊢; omega)]
  simp
theorem join_eq {x y : match_Match} (h1 : x.In.length + y.In.length ≤ maxL) (h2 : x.Out.length + y.Out.length ≤ maxL) : F.match_join x y = some (joinM x y) := by
  unfold F.match_join F.slices_Concat_match_Span_match_Span
  rw [lcat_two h1, Option.bind_some, lcat_two h2, Option.bind_some]
  rfl
theorem both_eq {x y : List match_Span} (h1 : x.length + y.length ≤ maxL) : F.law12_both x y = some (x ++ y) := by
  unfold F.law12_both
  rw [lapp_clone (by omega), Option.bind_some, lapp_yes h1]
  rfl
abbrev K : Nat := 1000000
theorem and_l2 (b : List match_Match) (x : match_Match) (hx : x.In.length ≤ K ∧ x.Out.length ≤ K) (hb : Lens K b) (acc : List match_Match) (hl : acc.length + b.length ≤ maxL) :
    F.match_And_l2 b x (acc, 0) = some (acc ++ b.map (joinM x)) := by
  unfold F.match_And_l2
  rw [iter_fold0 b (fun s y => s ++ [joinM x y]) (fun s => s) (fun pre s => s.length = acc.length + pre.length) ?_ ?_ (by simp)]
  · rw [foldl_app, flatMap_map (joinM x)]
  · intro i pre t y s e hp hi hy hm hs
    have := hb y hm
    have hn : b.length ≤ maxI := Nat.le_trans (Nat.le_trans (Nat.le_add_left _ _) hl) (by decide)
    simp only [maxL] at hl
    unfold F.match_And_s2
    simp only [lt_t hi, if_true, lidx_nat, hy, Option.bind_some]
    rw [join_eq (by simp only [K, maxL] at *; omega) (by simp only [K, maxL] at *; omega), Option.bind_some, lapp_yes (by simp only [List.length_singleton, maxL]; omega), Option.bind_some, wi1 hi hn]
    exact ⟨rfl, by simp; omega⟩
  · intro s _
    unfold F.match_And_s2
    simp
theorem andB {n m : Nat} (hn : 0 < n) : (400 / n < m) ↔ 400 < n * m := by
  rw [Nat.div_lt_iff_lt_mul hn, Nat.mul_comm]
theorem and_eq (a b : List match_Match) (ha : Lens K a) (hb : Lens K b) (hla : a.length ≤ maxI) (hlb : b.length ≤ 100000) :
    F.match_And a b = some (if 400 < a.length * b.length then ([], 23) else (andL a b, 0)) := by
  unfold F.match_And
  have hc : (if (decide ((a.length : Int) > 0)) = true then ((nz (a.length : Int)).bind fun x2 => some (decide ((b.length : Int) > (IntKind.wrap .i64 (Int.tdiv 400 (a.length : Int)))))) else some false) = some (decide (400 < a.length * b.length)) := by
    by_cases h0 : 0 < a.length
    · have h1 : decide ((a.length : Int) > 0) = true := by simp; omega
      have h2 : nz (a.length : Int) = some () := by unfold nz; rw [if_neg (by omega)]
      have h3 : Int.tdiv 400 (a.length : Int) = ((400 / a.length : Nat) : Int) := by
        rw [Int.tdiv_eq_ediv_of_nonneg (by omega)]
        simp
      have h4 : (400 / a.length : Nat) ≤ 400 := Nat.div_le_self _ _
      have h5 : IntKind.wrap .i64 ((400 / a.length : Nat) : Int) = ((400 / a.length : Nat) : Int) := by
        generalize 400 / a.length = q at h4
        exact wi64 (by omega) (by omega)
      rw [if_pos h1, h2, h3, h5, Option.bind_some]
      congr 1
      rw [Bool.eq_iff_iff]
      simp only [decide_eq_true_eq]
      rw [← andB h0]
      omega
    · have : a.length = 0 := by omega
      simp [this]
  rw [hc, Option.bind_some]
  by_cases hb4 : 400 < a.length * b.length
  · simp [hb4]
  · simp only [hb4, decide_false, Bool.false_eq_true, if_false]
    unfold F.match_And_l1
    rw [iter_fold0 a (fun s x => s ++ b.map (joinM x)) (fun s => s) (fun pre s => s.length = pre.length * b.length) ?_ ?_ (by simp)]
    · rw [foldl_app]
      rfl
    · intro i pre t x s e hp hi hx hm hs
      unfold F.match_And_s1
      simp only [lt_t hi, if_true, lidx_nat, hx, Option.bind_some]
      have h9 : (pre.length + 1) * b.length ≤ a.length * b.length := Nat.mul_le_mul_right _ (by omega)
      rw [Nat.add_mul, Nat.one_mul] at h9
      rw [and_l2 b x (ha x hm) hb s (by simp only [maxL]; omega), Option.bind_some, wi1 hi hla]
      exact ⟨rfl, by simp [Nat.add_mul]; omega⟩
    · intro s _
      unfold F.match_And_s1
      simp
/-- All ways to turn each about; none: too many. -/
def notL : List match_Match → List match_Match → Option (List match_Match)
  | [], out => some out
  | m :: t, out => if 400 < out.length * (turns m).length then none else notL t (andL out (turns m))
theorem turns_lens (m : match_Match) : Lens 1 (turns m) := by
  intro x hx
  unfold turns at hx
  simp only [List.mem_append, List.mem_map] at hx
  rcases hx with ⟨s, _, rfl⟩ | ⟨s, _, rfl⟩ <;> simp
theorem not_l2 (m : match_Match) (h : m.In.length ≤ 100000) : F.match_Not_l2 m ([], 0) = some (m.In.map fun s => ⟨[], [s]⟩) := by
  unfold F.match_Not_l2
  rw [iter_fold0 m.In (fun acc s => acc ++ [match_Match.mk [] [s]]) (fun s => s) (fun pre s => s.length = pre.length) ?_ ?_ rfl]
  · rw [foldl_app, flatMap_map (fun s => match_Match.mk [] [s])]
    rfl
  · intro i pre t x s e hp hi hx _ hs
    unfold F.match_Not_s2
    simp only [lt_t hi, if_true, lidx_nat, hx, Option.bind_some]
    rw [lapp_yes (by simp only [List.length_singleton, maxL]; omega), wi1 hi (by simp only [maxI]; omega)]
    simp [hs]
  · intro s _
    unfold F.match_Not_s2
    simp
theorem not_l3 (m : match_Match) (h : m.Out.length ≤ 100000) (acc : List match_Match) (ha : acc.length ≤ 100000) : F.match_Not_l3 m (acc, 0) = some (acc ++ m.Out.map fun s => ⟨[s], []⟩) := by
  unfold F.match_Not_l3
  rw [iter_fold0 m.Out (fun acc s => acc ++ [match_Match.mk [s] []]) (fun s => s) (fun pre s => s.length = acc.length + pre.length) ?_ ?_ rfl]
  · rw [foldl_app, flatMap_map (fun s => match_Match.mk [s] [])]
  · intro i pre t x s e hp hi hx _ hs
    unfold F.match_Not_s3
    simp only [lt_t hi, if_true, lidx_nat, hx, Option.bind_some]
    rw [lapp_yes (by simp only [List.length_singleton, maxL]; omega), wi1 hi (by simp only [maxI]; omega)]
    simp [hs]
    omega
  · intro s _
    unfold F.match_Not_s3
    simp
def notG (out : List match_Match) (m : match_Match) : List match_Match ⊕ (List match_Match ⊕ (List match_Match × Int)) :=
  if 400 < out.length * (turns m).length then .inr (.inr ([], 23)) else .inl (andL out (turns m))
theorem notL_goE : ∀ (l out : List match_Match), goE notG (fun s => .inl s) l out = match notL l out with
    | some r => .inl r
    | none => .inr ([], 23)
  | [], out => rfl
  | m :: t, out => by
    unfold goE notL notG
    by_cases h : 400 < out.length * (turns m).length
    · simp [h]
    · simp only [h, if_false]
      exact notL_goE t _
theorem not_eq (a : List match_Match) (ha : Lens 10000 a) (hl : a.length ≤ 100000) : F.match_Not a = some (match notL a [⟨[], []⟩] with
    | some r => (r, 0)
    | none => ([], 23)) := by
  unfold F.match_Not F.match_Not_l1
  rw [iter_exit0 a notG (fun s => .inl s) (fun pre s => Lens pre.length s ∧ s.length ≤ 400) ?_ ?_ (by simp [Lens])]
  · rw [notL_goE, Option.bind_some]
    cases notL a [⟨[], []⟩] <;> rfl
  · intro i pre t x s e hp hi hx hm hs
    have h1 := ha x hm
    unfold F.match_Not_s1
    simp only [lt_t hi, if_true, lidx_nat, hx, Option.bind_some]
    rw [not_l2 x (by omega), Option.bind_some, not_l3 x (by omega) _ (by simp; omega), Option.bind_some]
    have hA := and_eq s (turns x) (fun m hm => by have := hs.1 m hm; simp only [K]; omega) (fun m hm => by have := turns_lens x m hm; simp only [K]; omega) (by simp only [maxI]; omega) (by simp [turns]; omega)
    rw [show (x.In.map fun s => match_Match.mk [] [s]) ++ (x.Out.map fun s => match_Match.mk [s] []) = turns x from rfl, hA, Option.bind_some]
    unfold notG
    by_cases h4 : 400 < s.length * (turns x).length
    · simp [h4]
    · simp only [h4, if_false]
      rw [wi1 hi (by simp only [maxI]; omega)]
      refine ⟨rfl, fun s' hs' => ?_⟩
      injection hs' with hs'
      subst hs'
      refine ⟨?_, ?_⟩
      · rw [List.length_append]; exact andL_lens hs.1 (turns_lens x)
      · rw [andL_len]; omega
  · intro s _
    unfold F.match_Not_s1
    simp
theorem head_ok : F.law12_head = some true := by
  unfold F.law12_head
  rw [of_go _ (by decide)]
  simp only [List.map, Option.bind_some]
  have hnot : F.match_Not [⟨[⟨1, 1, 0, 0⟩], []⟩, ⟨[⟨2, 3, 0, 0⟩], []⟩] = some ([⟨[], [⟨1, 1, 0, 0⟩, ⟨2, 3, 0, 0⟩]⟩], 0) := by
    rw [not_eq _ (by intro m hm; simp at hm; rcases hm with rfl | rfl <;> simp) (by simp)]
    rfl
  rw [hnot]
  simp only [Option.bind_some, holds_eq [⟨[], [⟨1, 1, 0, 0⟩, ⟨2, 3, 0, 0⟩]⟩] (by decide), holds_eq [⟨[⟨1, 1, 0, 0⟩], []⟩, ⟨[⟨2, 3, 0, 0⟩], []⟩] (by decide)]
  rfl
end Go.Proofs.Ytihbdelgoapeoaa.T
