/- Or, and, not, plainly: the program's and the statement's. -/
import Derived.Test.YtihbdelgoapeoaaTMA
namespace Go.Proofs.Ytihbdelgoapeoaa.T
open Go F
set_option linter.unusedVariables false
set_option linter.unusedSimpArgs false
set_option maxRecDepth 20000

theorem filter_true {α : Type} : ∀ l : List α, (l.filter fun _ => true) = l
  | [] => rfl
  | x :: t => by simp
theorem or_eq (a b : List match_Match) (ha : Lens K a) (hb : Lens K b) (hl : a.length + b.length ≤ 100000) : F.match_Or a b = some (if 400 < a.length + b.length then ([], 23) else (a ++ b, 0)) := by
  unfold F.match_Or F.slices_Concat_match_Match_match_Match
  rw [lcat_two (by simp only [maxL]; omega), Option.bind_some]
  rw [keep_eq (a ++ b) (fun z0 => F.match_Or_1 z0) (fun m => (m, true)) (fun m _ => rfl) (fun m hm => ?_) (by simp [maxL]; omega)]
  · simp only [filter_true, List.map_id', Option.bind_some]
    unfold F.match_few
    simp only [List.length_append]
    by_cases h : 400 < a.length + b.length
    · have : decide (((a.length + b.length : Nat) : Int) > 400) = true := by simp; omega
      rw [if_pos h, if_pos this]; rfl
    · have : decide (((a.length + b.length : Nat) : Int) > 400) = false := by simp; omega
      rw [if_neg h, if_neg (by rw [this]; simp)]; rfl
  · have : m.In.length ≤ K ∧ m.Out.length ≤ K := by
      rcases List.mem_append.1 hm with h | h
      · exact ha m h
      · exact hb m h
    simp only [maxL, K] at *
    omega
theorem land_l2 (b : List match_Match) (x : match_Match) (hx : x.In.length ≤ K ∧ x.Out.length ≤ K) (hb : Lens K b) (acc : List match_Match) (hl : acc.length + b.length ≤ maxL) :
    F.law12_and_l2 b x (acc, 0) = some (acc ++ b.map (joinM x)) := by
  unfold F.law12_and_l2
  rw [iter_fold0 b (fun s y => s ++ [joinM x y]) (fun s => s) (fun pre s => s.length = acc.length + pre.length) ?_ ?_ (by simp)]
  · rw [foldl_app, flatMap_map (joinM x)]
  · intro i pre t y s e hp hi hy hm hs
    have := hb y hm
    have hn : b.length ≤ maxI := Nat.le_trans (Nat.le_trans (Nat.le_add_left _ _) hl) (by decide)
    simp only [maxL] at hl
    unfold F.law12_and_s2
    simp only [lt_t hi, if_true, lidx_nat, hy, Option.bind_some]
    rw [both_eq (by simp only [K, maxL] at *; omega), Option.bind_some, both_eq (by simp only [K, maxL] at *; omega), Option.bind_some, lapp_yes (by simp only [List.length_singleton, maxL]; omega), Option.bind_some, wi1 hi hn]
    exact ⟨rfl, by simp; omega⟩
  · intro s _
    unfold F.law12_and_s2
    simp
theorem land_eq (a b : List match_Match) (ha : Lens K a) (hb : Lens K b) (hla : a.length ≤ 1000) (hlb : b.length ≤ 1000) :
    F.law12_and a b = some (andL a b, decide (a.length * b.length ≤ 400)) := by
  unfold F.law12_and F.law12_and_l1
  have hm : a.length * b.length ≤ 1000 * 1000 := Nat.mul_le_mul hla hlb
  rw [iter_fold0 a (fun s x => s ++ b.map (joinM x)) (fun s => s) (fun pre s => s.length = pre.length * b.length) ?_ ?_ (by simp)]
  · rw [foldl_app, Option.bind_some]
    rw [show ((a.length : Int) * (b.length : Int)) = ((a.length * b.length : Nat) : Int) by simp]
    generalize a.length * b.length = q at hm
    rw [wi64 (by omega) (by omega)]
    congr 2
    rw [Bool.eq_iff_iff]
    simp
    omega
  · intro i pre t x s e hp hi hx hmx hs
    unfold F.law12_and_s1
    simp only [lt_t hi, if_true, lidx_nat, hx, Option.bind_some]
    have h9 : (pre.length + 1) * b.length ≤ a.length * b.length := Nat.mul_le_mul_right _ (by omega)
    rw [Nat.add_mul, Nat.one_mul] at h9
    rw [land_l2 b x (ha x hmx) hb s (by simp only [maxL]; omega), Option.bind_some, wi1 hi (by simp only [maxI]; omega)]
    exact ⟨rfl, by simp [Nat.add_mul]; omega⟩
  · intro s _
    unfold F.law12_and_s1
    simp
theorem lnot_l2 (m : match_Match) (h : m.In.length ≤ 100000) : F.law12_not_l2 m ([], 0) = some (m.In.map fun s => ⟨[], [s]⟩) := by
  unfold F.law12_not_l2
  rw [iter_fold0 m.In (fun acc s => acc ++ [match_Match.mk [] [s]]) (fun s => s) (fun pre s => s.length = pre.length) ?_ ?_ rfl]
  · rw [foldl_app, flatMap_map (fun s => match_Match.mk [] [s])]
    rfl
  · intro i pre t x s e hp hi hx _ hs
    unfold F.law12_not_s2
    simp only [lt_t hi, if_true, lidx_nat, hx, Option.bind_some]
    rw [lapp_yes (by simp only [List.length_singleton, maxL]; omega), wi1 hi (by simp only [maxI]; omega)]
    simp [hs]
  · intro s _
    unfold F.law12_not_s2
    simp
theorem lnot_l3 (m : match_Match) (h : m.Out.length ≤ 100000) (acc : List match_Match) (ha : acc.length ≤ 100000) : F.law12_not_l3 m (acc, 0) = some (acc ++ m.Out.map fun s => ⟨[s], []⟩) := by
  unfold F.law12_not_l3
  rw [iter_fold0 m.Out (fun acc s => acc ++ [match_Match.mk [s] []]) (fun s => s) (fun pre s => s.length = acc.length + pre.length) ?_ ?_ rfl]
  · rw [foldl_app, flatMap_map (fun s => match_Match.mk [s] [])]
  · intro i pre t x s e hp hi hx _ hs
    unfold F.law12_not_s3
    simp only [lt_t hi, if_true, lidx_nat, hx, Option.bind_some]
    rw [lapp_yes (by simp only [List.length_singleton, maxL]; omega), wi1 hi (by simp only [maxI]; omega)]
    simp [hs]
    omega
  · intro s _
    unfold F.law12_not_s3
    simp
def lnotG (out : List match_Match) (m : match_Match) : List match_Match ⊕ (List match_Match ⊕ (List match_Match × Bool)) :=
  if 400 < out.length * (turns m).length then .inr (.inr ([], false)) else .inl (andL out (turns m))
theorem lnotL_goE : ∀ (l out : List match_Match), goE lnotG (fun s => .inl s) l out = match notL l out with
    | some r => .inl r
    | none => .inr ([], false)
  | [], out => rfl
  | m :: t, out => by
    unfold goE notL lnotG
    by_cases h : 400 < out.length * (turns m).length
    · simp [h]
    · simp only [h, if_false]
      exact lnotL_goE t _
theorem lnot_eq (a : List match_Match) (ha : Lens 400 a) (hl : a.length ≤ 100000) : F.law12_not a = some (match notL a [⟨[], []⟩] with
    | some r => (r, true)
    | none => ([], false)) := by
  unfold F.law12_not F.law12_not_l1
  rw [iter_exit0 a lnotG (fun s => .inl s) (fun pre s => Lens pre.length s ∧ s.length ≤ 400) ?_ ?_ (by simp [Lens])]
  · rw [lnotL_goE, Option.bind_some]
    cases notL a [⟨[], []⟩] <;> rfl
  · intro i pre t x s e hp hi hx hm hs
    have h1 := ha x hm
    unfold F.law12_not_s1
    simp only [lt_t hi, if_true, lidx_nat, hx, Option.bind_some]
    rw [lnot_l2 x (by omega), Option.bind_some, lnot_l3 x (by omega) _ (by simp; omega), Option.bind_some]
    have hA := land_eq s (turns x) (fun m hm => by have := hs.1 m hm; simp only [K]; omega) (fun m hm => by have := turns_lens x m hm; simp only [K]; omega) (by omega) (by simp [turns]; omega)
    rw [show (x.In.map fun s => match_Match.mk [] [s]) ++ (x.Out.map fun s => match_Match.mk [s] []) = turns x from rfl, hA, Option.bind_some]
    unfold lnotG
    by_cases h4 : 400 < s.length * (turns x).length
    · simp [h4]
    · simp only [h4, if_false]
      rw [wi1 hi (by simp only [maxI]; omega)]
      refine ⟨by simp; omega, fun s' hs' => ?_⟩
      injection hs' with hs'
      subst hs'
      refine ⟨?_, ?_⟩
      · rw [List.length_append]; exact andL_lens hs.1 (turns_lens x)
      · rw [andL_len]; omega
  · intro s _
    unfold F.law12_not_s1
    simp
theorem notL_sizes : ∀ (l out : List match_Match) (r : List match_Match) (k : Nat), notL l out = some r → Lens k out → out.length ≤ 400 → Lens (k + l.length) r ∧ r.length ≤ 400
  | [], out, r, k, h, hk, hl => by cases h; exact ⟨hk, hl⟩
  | m :: t, out, r, k, h, hk, hl => by
    unfold notL at h
    by_cases h4 : 400 < out.length * (turns m).length
    · simp [h4] at h
    · simp only [h4, if_false] at h
      have := notL_sizes t _ r (k + 1) h (andL_lens hk (turns_lens m)) (by rw [andL_len]; omega)
      rw [List.length_cons, show k + (t.length + 1) = k + 1 + t.length by omega]
      exact this

/-- Nothing that mustn't be there. -/
abbrev freeM (m : match_Match) : Bool := m.Out.length == 0
theorem any_and (a b : List match_Match) : (andL a b).any freeM = (a.any freeM && b.any freeM) := by
  rw [Bool.eq_iff_iff]
  simp only [List.any_eq_true, Bool.and_eq_true, andL, List.mem_flatMap, List.mem_map]
  constructor
  · rintro ⟨m, ⟨x, hx, y, hy, rfl⟩, hm⟩
    simp [freeM, joinM] at hm
    exact ⟨⟨x, hx, by simp [freeM, hm.1]⟩, ⟨y, hy, by simp [freeM, hm.2]⟩⟩
  · rintro ⟨⟨x, hx, h1⟩, ⟨y, hy, h2⟩⟩
    simp [freeM] at h1 h2
    exact ⟨joinM x y, ⟨x, hx, y, hy, rfl⟩, by simp [freeM, joinM, h1, h2]⟩
theorem any_turns (m : match_Match) : (turns m).any freeM = !freeM m := by
  unfold turns
  cases h : m.Out with
  | nil => simp [freeM, h]
  | cons s t => simp [freeM, h]
theorem any_not : ∀ (l out r : List match_Match), notL l out = some r → r.any freeM = (out.any freeM && !l.any freeM)
  | [], out, r, h => by cases h; simp
  | m :: t, out, r, h => by
    unfold notL at h
    by_cases h4 : 400 < out.length * (turns m).length
    · simp [h4] at h
    · simp only [h4, if_false] at h
      rw [any_not t _ r h, any_and, any_turns]
      simp only [List.any_cons, Bool.not_or, Bool.and_assoc]
end Go.Proofs.Ytihbdelgoapeoaa.T
