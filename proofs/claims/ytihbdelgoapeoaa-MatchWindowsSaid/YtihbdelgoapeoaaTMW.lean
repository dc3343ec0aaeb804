/- How many units some spans go into; which are in unlike ones, plainly. -/
import Derived.Test.YtihbdelgoapeoaaTMR
namespace Go.Proofs.Ytihbdelgoapeoaa.T
open Go F
set_option linter.unusedVariables false
set_option linter.unusedSimpArgs false
set_option maxRecDepth 20000

def OkL (l : List match_Span) : Prop := ∀ s ∈ l, okSp s
def wstep (t : match_Text) (u : Int) (q : Int × Int) (s : match_Span) : Int × Int := (min q.1 (rk t u s.From), max q.2 (rk t u s.To))
def wideF (t : match_Text) (u : Int) : List match_Span → Int
  | [] => 0
  | s :: l => (l.foldl (wstep t u) (rk t u s.From, rk t u s.To)).2 - (l.foldl (wstep t u) (rk t u s.From, rk t u s.To)).1 + 1
theorem rkF {t : match_Text} (h : TextOk t) (u : Int) {s : match_Span} (hs : okSp s) : 0 ≤ rk t u s.From ∧ rk t u s.From ≤ 1000 := rk_rng h u hs.1 (by have := hs.2; omega)
theorem rkT {t : match_Text} (h : TextOk t) (u : Int) {s : match_Span} (hs : okSp s) : 0 ≤ rk t u s.To ∧ rk t u s.To ≤ 1000 := rk_rng h u (by have := hs.1; have := hs.2; omega) hs.2.2
theorem fold_rng {t : match_Text} (h : TextOk t) (u : Int) : ∀ (l : List match_Span) (q : Int × Int), OkL l → 0 ≤ q.1 ∧ q.1 ≤ 1000 ∧ 0 ≤ q.2 ∧ q.2 ≤ 1000 → 0 ≤ (l.foldl (wstep t u) q).1 ∧ (l.foldl (wstep t u) q).1 ≤ 1000 ∧ 0 ≤ (l.foldl (wstep t u) q).2 ∧ (l.foldl (wstep t u) q).2 ≤ 1000
  | [], q, _, hq => hq
  | s :: l, q, hl, hq => by
    have hs := hl s (by simp)
    have h1 := rkF h u hs
    have h2 := rkT h u hs
    rw [List.foldl_cons]
    refine fold_rng h u l _ (fun x hx => hl x (by simp [hx])) ?_
    unfold wstep
    simp only
    omega
theorem wide_eq {t : match_Text} (h : TextOk t) (u : Int) (l : List match_Span) (hl : OkL l) (hn : l.length ≤ 1000) : F.match_Text_wide t u l = some (wideF t u l) := by
  unfold F.match_Text_wide
  cases l with
  | nil => rfl
  | cons s tl =>
    have hs := hl s (by simp)
    have h1 := rkF h u hs
    have h2 := rkT h u hs
    have hz : (((s :: tl).length : Int) == 0) = false := by simp; omega
    rw [if_neg (by rw [hz]; simp)]
    have h0 : lidx (s :: tl) 0 = some s := rfl
    rw [h0]
    simp only [Option.bind_some, rank1 h]
    have hloop : F.match_Text_wide_l1 t u (s :: tl) (rk t u s.From, rk t u s.To, 0) = some ((s :: tl).foldl (wstep t u) (rk t u s.From, rk t u s.To)) := by
      unfold F.match_Text_wide_l1
      rw [iter_conv (f := fun q : Int × Int × Int => ((q.1, q.2.1), q.2.2)) (g := fun q => (q.1.1, q.1.2, q.2)) (fun s => rfl)]
      rw [iter_fold0 (s :: tl) (wstep t u) (fun s => s) (fun _ _ => True) ?_ ?_ trivial]
      · intro i pre t' x q e hp hi hx hm _
        refine ⟨?_, trivial⟩
        unfold F.match_Text_wide_s1
        simp only [lt_t hi, if_true, lidx_nat, hx, Option.bind_some, rank1 h]
        rw [wi1 hi (by simp only [maxI]; omega)]
        rfl
      · intro q _
        unfold F.match_Text_wide_s1
        simp
    rw [hloop, Option.bind_some]
    have e1 : (s :: tl).foldl (wstep t u) (rk t u s.From, rk t u s.To) = tl.foldl (wstep t u) (rk t u s.From, rk t u s.To) := by
      rw [List.foldl_cons]
      congr 1
      unfold wstep
      simp
    rw [e1]
    have hr := fold_rng h u tl (rk t u s.From, rk t u s.To) (fun x hx => hl x (by simp [hx])) (by simp only; omega)
    rw [show wideF t u (s :: tl) = (tl.foldl (wstep t u) (rk t u s.From, rk t u s.To)).2 - (tl.foldl (wstep t u) (rk t u s.From, rk t u s.To)).1 + 1 from rfl]
    generalize tl.foldl (wstep t u) (rk t u s.From, rk t u s.To) = q at hr
    rw [wi64 (n := q.2 - q.1) (by omega) (by omega), wi64 (by omega) (by omega)]
theorem lwide_eq {t : match_Text} (h : TextOk t) (u : Int) (l : List match_Span) (hl : OkL l) (hn : l.length ≤ 1000) : F.law12_MatchWindows_1 l t u = some (wideF t u l) := by
  unfold F.law12_MatchWindows_1
  cases l with
  | nil => rfl
  | cons s tl =>
    have hs := hl s (by simp)
    have h1 := rkF h u hs
    have h2 := rkT h u hs
    have hz : (((s :: tl).length : Int) == 0) = false := by simp; omega
    rw [if_neg (by rw [hz]; simp)]
    have hloop : F.law12_MatchWindows_1_l1 (s :: tl) t u (1073741824, (-1), 0) = some ((s :: tl).foldl (wstep t u) (1073741824, -1)) := by
      unfold F.law12_MatchWindows_1_l1
      rw [iter_conv (f := fun q : Int × Int × Int => ((q.1, q.2.1), q.2.2)) (g := fun q => (q.1.1, q.1.2, q.2)) (fun s => rfl)]
      rw [iter_fold0 (s :: tl) (wstep t u) (fun s => s) (fun _ _ => True) ?_ ?_ trivial]
      · intro i pre t' x q e hp hi hx hm _
        refine ⟨?_, trivial⟩
        unfold F.law12_MatchWindows_1_s1
        simp only [lt_t hi, if_true, lidx_nat, hx, Option.bind_some, rank2 h]
        rw [wi1 hi (by simp only [maxI]; omega)]
        rfl
      · intro q _
        unfold F.law12_MatchWindows_1_s1
        simp
    rw [hloop, Option.bind_some]
    have e1 : (s :: tl).foldl (wstep t u) (1073741824, -1) = tl.foldl (wstep t u) (rk t u s.From, rk t u s.To) := by
      rw [List.foldl_cons]
      congr 1
      unfold wstep
      simp only
      rw [Prod.mk.injEq]
      constructor <;> omega
    rw [e1]
    have hr := fold_rng h u tl (rk t u s.From, rk t u s.To) (fun x hx => hl x (by simp [hx])) (by simp only; omega)
    rw [show wideF t u (s :: tl) = (tl.foldl (wstep t u) (rk t u s.From, rk t u s.To)).2 - (tl.foldl (wstep t u) (rk t u s.From, rk t u s.To)).1 + 1 from rfl]
    generalize tl.foldl (wstep t u) (rk t u s.From, rk t u s.To) = q at hr
    rw [wi64 (n := q.2 - q.1) (by omega) (by omega), wi64 (by omega) (by omega)]
theorem GoodP.okIn {a : List match_Match} (ga : GoodP a) {m : match_Match} (hm : m ∈ a) : OkL m.In := fun s hs => (ga m hm).2.2 s (List.mem_append_left _ hs)
theorem GoodP.okOut {a : List match_Match} (ga : GoodP a) {m : match_Match} (hm : m ∈ a) : OkL m.Out := fun s hs => (ga m hm).2.2 s (List.mem_append_right _ hs)
theorem GoodP.lens {a : List match_Match} (ga : GoodP a) : Lens 100000 a := fun m hm => by have := ga m hm; omega
theorem OkL.add {l : List match_Span} (h : OkL l) {s : match_Span} (hs : okSp s) : OkL (l ++ [s]) := fun x hx => by
  rcases List.mem_append.1 hx with g | g
  · exact h x g
  · simp at g; subst g; exact hs
/-- Those that go into so many. -/
def intoL (t : match_Text) (u n : Int) (a : List match_Match) : List match_Match :=
  (a.filter fun m => decide (wideF t u m.In ≤ n)).map fun m => ⟨m.In, m.Out.filter fun s => decide (wideF t u (m.In ++ [s]) ≤ n)⟩
theorem keepGo {a : List match_Match} (ga : GoodP a) (hl : a.length ≤ 1000) {t : match_Text} (h : TextOk t) (u n : Int) (f : match_Match → Option (match_Match × Bool)) (f2 : match_Match → match_Span → Option Bool)
    (hf : ∀ m, f m = (F.match_outs m (f2 m)).bind fun x18 => (F.match_Text_wide t u m.In).bind fun x20 => some (x18, decide (x20 ≤ n)))
    (hf2 : ∀ m s, f2 m s = (F.slices_Clone_match_Span_match_Span m.In).bind fun x14 => (lapp x14 [s]).bind fun x16 => (F.match_Text_wide t u x16).bind fun x18 => some (decide (x18 ≤ n))) :
    F.match_keep a f = some (intoL t u n a) := by
  rw [keep_eq a f (fun m => (⟨m.In, m.Out.filter fun s => decide (wideF t u (m.In ++ [s]) ≤ n)⟩, decide (wideF t u m.In ≤ n))) (fun m hm => ?_) (fun m hm => ?_) (by simp only [maxL]; omega)]
  · rfl
  · have hm5 := ga m hm
    rw [hf, outs_eq m (f2 m) (fun s => decide (wideF t u (m.In ++ [s]) ≤ n)) (fun s hs => ?_) (by simp only [maxL]; omega), Option.bind_some, wide_eq h u m.In (ga.okIn hm) (by omega)]
    · rfl
    · rw [hf2]
      unfold F.slices_Clone_match_Span_match_Span
      rw [lapp_clone (by simp only [maxL]; omega), Option.bind_some, lapp_yes (by simp only [List.length_singleton, maxL]; omega), Option.bind_some, wide_eq h u _ ((ga.okIn hm).add (ga.okOut hm s hs)) (by simp; omega)]
      rfl
  · have := ga m hm
    have h2 := List.length_filter_le (fun s => decide (wideF t u (m.In ++ [s]) ≤ n)) m.Out
    simp only [maxL]
    omega
theorem window_eq {a : List match_Match} (ga : GoodP a) (hl : a.length ≤ 1000) {t : match_Text} (h : TextOk t) (u n : Int) : F.match_Text_Window t a n u = some (intoL t u n a) := by
  unfold F.match_Text_Window
  rw [keepGo ga hl h u n (fun z0 => F.match_Text_Window_1 z0 t u n) (fun m z0 => F.match_Text_Window_1_1 z0 t u m n) (fun m => rfl) (fun m s => rfl)]
  rfl
theorem sameU_eq {a : List match_Match} (ga : GoodP a) (hl : a.length ≤ 1000) {t : match_Text} (h : TextOk t) (u : Int) : F.match_Text_Same t a u = some (intoL t u 1 a) := by
  unfold F.match_Text_Same
  rw [keepGo ga hl h u 1 (fun z0 => F.match_Text_Same_1 z0 t u) (fun m z0 => F.match_Text_Same_1_1 z0 t u m) (fun m => rfl) (fun m s => rfl)]
  rfl
theorem linto_eq {a : List match_Match} (ga : GoodP a) (hl : a.length ≤ 1000) {t : match_Text} (h : TextOk t) (u n : Int) : F.law12_MatchWindows_2 n a (fun z0 => F.law12_MatchWindows_1 z0 t u) = some (intoL t u n a) := by
  unfold F.law12_MatchWindows_2
  rw [filter_eq a _ _ (fun l => decide (wideF t u l ≤ n)) (fun l s => decide (wideF t u (l ++ [s]) ≤ n)) (fun m hm => ?_) (fun m hm s hs => ?_) ga.lens (by simp only [maxL]; omega)]
  · rfl
  · have := ga m hm
    unfold F.law12_MatchWindows_2_1
    simp only [lwide_eq h u m.In (ga.okIn hm) (by omega)]
    rfl
  · have := ga m hm
    unfold F.law12_MatchWindows_2_2
    rw [both_eq (by simp only [List.length_singleton, maxL]; omega), Option.bind_some]
    simp only [lwide_eq h u _ ((ga.okIn hm).add (ga.okOut hm s hs)) (show (m.In ++ [s]).length ≤ 1000 by simp; omega)]
    rfl
/-- Are two in the same unit? -/
def ov (t : match_Text) (u : Int) (x y : match_Span) : Bool := decide (rk t u x.From ≤ rk t u y.To) && decide (rk t u y.From ≤ rk t u x.To)
theorem ov_comm (t : match_Text) (u : Int) (x y : match_Span) : ov t u x y = ov t u y x := by unfold ov; rw [Bool.and_comm]
def ApartP (t : match_Text) (u : Int) (l : List match_Span) : Prop := ∀ (i j : Nat) (hi : i < l.length) (hj : j < l.length), j < i → ov t u l[i] l[j] = false
open Classical in
theorem apart_1 {t : match_Text} (h : TextOk t) (u : Int) (m : match_Match) (hn : m.In.length ≤ 1000) : F.match_Text_Apart_1 m t u = some (m, decide (ApartP t u m.In)) := by
  have l2 : ∀ (x : match_Span) (ys : List match_Span), ys.length ≤ 1000 → F.match_Text_Apart_1_l2 m t u x ys 0 = some (if ys.any (ov t u x) then .inr (m, false) else .inl ()) := by
    intro x ys hys
    unfold F.match_Text_Apart_1_l2
    have key := iter_find (step := F.match_Text_Apart_1_s2 m t u x ys) ys.length (fun i => (ys[i]?.map (ov t u x)).getD false) (fun i => (.inr (m, false) : Unit ⊕ (match_Match × Bool))) (.inl ()) ?_ ?_
    · rcases key with ⟨i, h1, h2, _, h3⟩ | ⟨h1, h2⟩
      · rw [h3]
        have : ys.any (ov t u x) = true := List.any_eq_true.2 ⟨ys[i], List.getElem_mem h1, by simpa [h1] using h2⟩
        simp [this]
      · rw [h2]
        have : ys.any (ov t u x) = false := by
          rw [List.any_eq_false]
          intro y hy
          obtain ⟨i, hi, rfl⟩ := List.mem_iff_getElem.1 hy
          have := h1 i hi
          simpa [hi] using this
        simp [this]
    · intro i hi
      unfold F.match_Text_Apart_1_s2
      have hx : ys[i]? = some ys[i] := List.getElem?_eq_getElem hi
      simp only [lt_t hi, if_true, lidx_nat, hx, Option.bind_some, Option.map_some, Option.getD_some, rank1 h]
      rw [wi1 hi (by simp only [maxI]; omega)]
      unfold ov
      by_cases c1 : rk t u x.From ≤ rk t u (ys[i]).To
      · by_cases c2 : rk t u (ys[i]).From ≤ rk t u x.To
        · simp [c1, c2]
        · simp [c1, c2]
      · simp [c1]
    · unfold F.match_Text_Apart_1_s2
      simp
  unfold F.match_Text_Apart_1 F.match_Text_Apart_1_l1
  have key := iter_find (step := F.match_Text_Apart_1_s1 m t u) m.In.length (fun i => (m.In[i]?.map fun x => (m.In.take i).any (ov t u x)).getD false) (fun i => (.inr (m, false) : Unit ⊕ (match_Match × Bool))) (.inl ()) ?_ ?_
  · rcases key with ⟨i, h1, h2, _, h3⟩ | ⟨h1, h2⟩
    · rw [h3, Option.bind_some]
      have : ¬ ApartP t u m.In := fun hp => by
        simp only [List.getElem?_eq_getElem h1, Option.map_some, Option.getD_some, List.any_eq_true] at h2
        obtain ⟨y, hy, hov⟩ := h2
        obtain ⟨j, hj, rfl⟩ := List.mem_iff_getElem.1 hy
        rw [List.length_take] at hj
        rw [List.getElem_take] at hov
        rw [hp i j h1 (by omega) (by omega)] at hov
        cases hov
      simp [this]
    · rw [h2, Option.bind_some]
      have : ApartP t u m.In := fun i j hi hj hij => by
        have := h1 i hi
        simp only [List.getElem?_eq_getElem hi, Option.map_some, Option.getD_some, List.any_eq_false] at this
        have h4 := this m.In[j] (by
          rw [List.mem_iff_getElem]
          exact ⟨j, by rw [List.length_take]; omega, by rw [List.getElem_take]⟩)
        simpa using h4
      simp [this]
  · intro i hi
    unfold F.match_Text_Apart_1_s1
    have hx : m.In[i]? = some m.In[i] := List.getElem?_eq_getElem hi
    have hs : lsub m.In 0 (i : Int) = some (m.In.take i) := by
      unfold lsub
      rw [if_pos (by omega)]
      simp
    simp only [lt_t hi, if_true, lidx_nat, hx, Option.bind_some, Option.map_some, Option.getD_some, hs]
    rw [l2 _ _ (by rw [List.length_take]; omega), wi1 hi (by simp only [maxI]; omega)]
    by_cases c : (m.In.take i).any (ov t u m.In[i]) = true
    · simp [c]
    · simp [c]
  · unfold F.match_Text_Apart_1_s1
    simp
open Classical in
theorem lapart {t : match_Text} (h : TextOk t) (u : Int) (l : List match_Span) (hn : l.length ≤ 1000) : F.law12_MatchWindows_3 l t u = some (decide (ApartP t u l)) := by
  have l2 : ∀ (i : Nat) (hi : i < l.length), F.law12_MatchWindows_3_l2 l t u (i : Int) l[i] 0 = some (.inr false) ∧ (∃ j, ∃ hj : j < l.length, j ≠ i ∧ ov t u l[i] l[j] = true) ∨ F.law12_MatchWindows_3_l2 l t u (i : Int) l[i] 0 = some (.inl ()) ∧ (∀ (j : Nat) (hj : j < l.length), j ≠ i → ov t u l[i] l[j] = false) := by
    intro i hi
    unfold F.law12_MatchWindows_3_l2
    have key := iter_find (step := F.law12_MatchWindows_3_s2 l t u (i : Int) l[i]) l.length (fun j => (l[j]?.map fun y => decide (i ≠ j) && ov t u l[i] y).getD false) (fun i => (.inr false : Unit ⊕ Bool)) (.inl ()) ?_ ?_
    · rcases key with ⟨j, h1, h2, _, h3⟩ | ⟨h1, h2⟩
      · simp only [List.getElem?_eq_getElem h1, Option.map_some, Option.getD_some, Bool.and_eq_true, decide_eq_true_eq] at h2
        exact .inl ⟨h3, j, h1, fun e => h2.1 e.symm, h2.2⟩
      · refine .inr ⟨h2, fun j hj hji => ?_⟩
        have := h1 j hj
        simp only [List.getElem?_eq_getElem hj, Option.map_some, Option.getD_some, Bool.and_eq_false_iff, decide_eq_false_iff_not] at this
        rcases this with g | g
        · exact absurd (fun e => hji e.symm) g
        · exact g
    · intro j hj
      unfold F.law12_MatchWindows_3_s2
      have hx : l[j]? = some l[j] := List.getElem?_eq_getElem hj
      simp only [lt_t hj, if_true, lidx_nat, hx, Option.bind_some, Option.map_some, Option.getD_some, rank2 h]
      rw [wi1 hj (by simp only [maxI]; omega)]
      unfold ov
      by_cases c0 : i = j
      · subst c0; simp
      · have c0' : ((i : Int) != (j : Int)) = true := by simp; omega
        by_cases c1 : rk t u (l[i]).From ≤ rk t u (l[j]).To
        · by_cases c2 : rk t u (l[j]).From ≤ rk t u (l[i]).To
          · simp [c0, c0', c1, c2]
          · simp [c0, c0', c1, c2]
        · simp [c0, c0', c1]
    · unfold F.law12_MatchWindows_3_s2
      simp
  unfold F.law12_MatchWindows_3 F.law12_MatchWindows_3_l1
  have key := iter_find (step := F.law12_MatchWindows_3_s1 l t u) l.length (fun i => (l[i]?.map fun x => F.law12_MatchWindows_3_l2 l t u (i : Int) x 0 == some (.inr false)).getD false) (fun i => (.inr false : Unit ⊕ Bool)) (.inl ()) ?_ ?_
  · rcases key with ⟨i, h1, h2, _, h3⟩ | ⟨h1, h2⟩
    · rw [h3, Option.bind_some]
      have : ¬ ApartP t u l := fun hp => by
        simp only [List.getElem?_eq_getElem h1, Option.map_some, Option.getD_some] at h2
        rcases l2 i h1 with ⟨_, j, hj, hji, hov⟩ | ⟨g, _⟩
        · by_cases hlt : j < i
          · rw [hp i j h1 hj hlt] at hov; cases hov
          · rw [ov_comm, hp j i hj h1 (by omega)] at hov; cases hov
        · rw [g] at h2; exact absurd h2 (by decide)
      simp [this]
    · rw [h2, Option.bind_some]
      have : ApartP t u l := fun i j hi hj hij => by
        have := h1 i hi
        simp only [List.getElem?_eq_getElem hi, Option.map_some, Option.getD_some] at this
        rcases l2 i hi with ⟨g, _⟩ | ⟨_, g⟩
        · rw [g] at this; exact absurd this (by decide)
        · exact g j hj (by omega)
      simp [this]
  · intro i hi
    unfold F.law12_MatchWindows_3_s1
    have hx : l[i]? = some l[i] := List.getElem?_eq_getElem hi
    simp only [lt_t hi, if_true, lidx_nat, hx, Option.bind_some, Option.map_some, Option.getD_some]
    rcases l2 i hi with ⟨g, _⟩ | ⟨g, _⟩
    · rw [g]; simp; rfl
    · rw [g, wi1 hi (by simp only [maxI]; omega)]; simp; rfl
  · unfold F.law12_MatchWindows_3_s1
    simp
open Classical in
/-- Those of which no two are in one unit. -/
noncomputable def apartL (t : match_Text) (u : Int) (a : List match_Match) : List match_Match := a.filter fun m => decide (ApartP t u m.In)
theorem filter_all {α : Type} : ∀ l : List α, (l.filter fun _ => true) = l
  | [] => rfl
  | x :: t => by simp
theorem apart_eq {a : List match_Match} (ga : GoodP a) (hl : a.length ≤ 1000) {t : match_Text} (h : TextOk t) (u : Int) : F.match_Text_Apart t a u = some (apartL t u a) := by
  classical
  unfold F.match_Text_Apart
  rw [keep_eq a _ (fun m => (m, decide (ApartP t u m.In))) (fun m hm => apart_1 h u m (by have := ga m hm; omega)) (fun m hm => by have := ga m hm; simp only [maxL]; omega) (by simp only [maxL]; omega)]
  simp only [Option.bind_some, List.map_id']
  rfl
theorem lapart_eq {a : List match_Match} (ga : GoodP a) (hl : a.length ≤ 1000) {t : match_Text} (h : TextOk t) (u : Int) : F.law12_filter a (fun z0 => F.law12_MatchWindows_3 z0 t u) (fun z0 z1 => F.law12_all z0 z1) = some (apartL t u a) := by
  classical
  rw [filter_eq a _ _ (fun l => decide (ApartP t u l)) (fun _ _ => true) (fun m hm => lapart h u m.In (by have := ga m hm; omega)) (fun m hm s hs => rfl) ga.lens (by simp only [maxL]; omega)]
  simp only [filter_all]
  have : (fun m : match_Match => (⟨m.In, m.Out⟩ : match_Match)) = fun m => m := rfl
  rw [this, List.map_id']
  rfl
end Go.Proofs.Ytihbdelgoapeoaa.T
