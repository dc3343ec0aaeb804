/- So many of some matches, plainly. -/
import Derived.Test.YtihbdelgoapeoaaTMB
namespace Go.Proofs.Ytihbdelgoapeoaa.T
open Go F
set_option linter.unusedVariables false
set_option linter.unusedSimpArgs false
set_option maxRecDepth 20000

/-- All ways to join so many of a list to one. -/
def combM (so : match_Match) : List match_Match → Nat → List match_Match
  | _, 0 => [so]
  | [], _ + 1 => []
  | x :: t, k + 1 => combM (joinM so x) t k ++ combM so t (k + 1)
theorem combM_zero (so : match_Match) (l : List match_Match) : combM so l 0 = [so] := by cases l <;> rfl
theorem combM_none : ∀ (l : List match_Match) (k : Nat) (so : match_Match), l.length < k → combM so l k = []
  | [], k + 1, so, _ => rfl
  | x :: t, k + 1, so, h => by
    simp only [List.length_cons] at h
    rw [combM, combM_none t k _ (by omega), combM_none t (k + 1) _ (by omega)]
    rfl
theorem combM_some : ∀ (l : List match_Match) (k : Nat) (so : match_Match), k ≤ l.length → 1 ≤ (combM so l k).length
  | l, 0, so, _ => by rw [combM_zero]; simp
  | x :: t, k + 1, so, h => by
    simp only [List.length_cons] at h
    have := combM_some t k (joinM so x) (by omega)
    rw [combM, List.length_append]
    omega
theorem combM_len : ∀ (l : List match_Match) (k : Nat) (so : match_Match), (combM so l k).length ≤ 2 ^ l.length
  | l, 0, so => by rw [combM_zero]; simpa using Nat.one_le_two_pow
  | [], k + 1, so => by simp [combM]
  | x :: t, k + 1, so => by
    have h1 := combM_len t k (joinM so x)
    have h2 := combM_len t (k + 1) so
    rw [combM, List.length_append, List.length_cons, Nat.pow_succ]
    omega
theorem combM_lens {c : Nat} : ∀ (l : List match_Match) (k : Nat) (so : match_Match) (d : Nat), Lens c l → so.In.length ≤ d ∧ so.Out.length ≤ d → Lens (d + c * k) (combM so l k)
  | l, 0, so, d, _, h => by rw [combM_zero]; intro m hm; simp at hm; subst hm; simpa using h
  | [], k + 1, so, d, _, h => by intro m hm; simp [combM] at hm
  | x :: t, k + 1, so, d, hl, h => by
    have hx := hl x (by simp)
    have ht : Lens c t := fun m hm => hl m (by simp [hm])
    have h1 := combM_lens t k (joinM so x) (d + c) ht (by simp only [joinM, List.length_append]; omega)
    have h2 := combM_lens t (k + 1) so d ht h
    rw [combM]
    intro m hm
    rcases List.mem_append.1 hm with h | h
    · have := h1 m h
      rw [Nat.mul_add, Nat.mul_one]
      omega
    · exact h2 m h
/-- One more each. -/
def ext (so : match_Match) (r : Nat) : Nat → List match_Match → List match_way
  | _, [] => []
  | j, x :: t => if r ≤ t.length then ⟨joinM so x, ((j + 1 : Nat) : Int)⟩ :: ext so r (j + 1) t else []
abbrev nxt (w : match_way) : Nat := w.next_.toNat
def rest (a : List match_Match) (r : Nat) (w : match_way) : List match_Match := combM w.m_ (a.drop (nxt w)) r
theorem ext_rest (so : match_Match) (r : Nat) (a : List match_Match) : ∀ (l pre : List match_Match), a = pre ++ l → (ext so r pre.length l).flatMap (rest a r) = combM so l (r + 1)
  | [], pre, _ => by simp [ext, combM]
  | x :: t, pre, e => by
    unfold ext
    by_cases h : r ≤ t.length
    · rw [if_pos h, List.flatMap_cons]
      have := ext_rest so r a t (pre ++ [x]) (by rw [e]; simp)
      simp only [List.length_append, List.length_singleton] at this
      rw [this, combM]
      congr 1
      unfold rest
      simp only [nxt, Int.toNat_natCast]
      rw [e]
      have : (pre ++ x :: t).drop (pre.length + 1) = t := by
        rw [show pre ++ x :: t = (pre ++ [x]) ++ t by simp, show pre.length + 1 = (pre ++ [x]).length by simp, List.drop_left]
      rw [this]
    · rw [if_neg h, combM_none]
      · rfl
      · simp only [List.length_cons]; omega
/-- What a way is. -/
def WayOk (a : List match_Match) (c r : Nat) (w : match_way) : Prop := 0 ≤ w.next_ ∧ nxt w ≤ a.length ∧ r ≤ a.length - nxt w ∧ w.m_.In.length ≤ c ∧ w.m_.Out.length ≤ c
theorem ext_ok {so : match_Match} {r c : Nat} {a : List match_Match} (ha : Lens 100 a) (hs : so.In.length ≤ c ∧ so.Out.length ≤ c) : ∀ (l pre : List match_Match), a = pre ++ l → ∀ w ∈ ext so r pre.length l, WayOk a (c + 100) r w
  | [], pre, _, w, h => by simp [ext] at h
  | x :: t, pre, e, w, hw => by
    unfold ext at hw
    by_cases h : r ≤ t.length
    · rw [if_pos h] at hw
      have hx := ha x (by rw [e]; simp)
      have hl := congrArg List.length e
      simp only [List.length_append, List.length_cons] at hl
      rcases List.mem_cons.1 hw with rfl | hw
      · refine ⟨by simp only; omega, by simp only [nxt, Int.toNat_natCast]; omega, by simp only [nxt, Int.toNat_natCast]; omega, ?_, ?_⟩
        · simp only [joinM, List.length_append]; omega
        · simp only [joinM, List.length_append]; omega
      · exact ext_ok ha hs t (pre ++ [x]) (by rw [e]; simp) w (by simpa using hw)
    · rw [if_neg h] at hw
      cases hw
theorem some_l3 (a : List match_Match) (n k r c : Nat) (ways : List match_way) (w : match_way) (hn : n = k + r + 1) (hn2 : n ≤ 1000) (ha : Lens 100 a) (hl : a.length ≤ 100000) (hw : w.m_.In.length ≤ 1000000 ∧ w.m_.Out.length ≤ 1000000) :
    ∀ (l pre : List match_Match) (acc : List match_way), a = pre ++ l → acc.length + (ext w.m_ r pre.length l).length ≤ 400 →
      F.match_some_l3 a (n : Int) (ways, (k : Int)) w (acc, (pre.length : Int)) = some (.inl (acc ++ ext w.m_ r pre.length l)) := by
  have hb : IntKind.wrap .i64 ((a.length : Int) - IntKind.wrap .i64 (IntKind.wrap .i64 ((n : Int) - (k : Int)) - 1)) = (a.length : Int) - (r : Int) := by
    rw [wi64 (n := (n : Int) - (k : Int)) (by omega) (by omega), wi64 (n := (n : Int) - (k : Int) - 1) (by omega) (by omega), wi64 (by omega) (by omega)]
    omega
  intro l
  induction l with
  | nil =>
    intro pre acc e _
    have : a.length = pre.length := by rw [e]; simp
    unfold F.match_some_l3
    have hs : F.match_some_s3 a (n : Int) (ways, (k : Int)) w (acc, (pre.length : Int)) = some (.inr (.inl acc)) := by
      unfold F.match_some_s3
      simp only [hb]
      rw [if_neg (by simp; omega)]
    rw [iter_eq, hs]
    simp [ext]
  | cons x t ih =>
    intro pre acc e hacc
    have hlen : a.length = pre.length + (t.length + 1) := by rw [e]; simp
    unfold F.match_some_l3
    unfold ext at hacc ⊢
    by_cases h : r ≤ t.length
    · rw [if_pos h] at hacc ⊢
      simp only [List.length_cons] at hacc
      have hx : a[pre.length]? = some x := by rw [e]; simp
      have hxm := ha x (by rw [e]; simp)
      have hs : F.match_some_s3 a (n : Int) (ways, (k : Int)) w (acc, (pre.length : Int)) = some (.inl (acc ++ [⟨joinM w.m_ x, ((pre.length + 1 : Nat) : Int)⟩], ((pre.length + 1 : Nat) : Int))) := by
        unfold F.match_some_s3
        simp only [hb]
        rw [if_pos (by simp; omega), lidx_nat, hx, Option.bind_some, join_eq (by simp only [maxL]; omega) (by simp only [maxL]; omega), Option.bind_some, wi1 (n := a.length) (by omega) (by simp only [maxI]; omega), lapp_yes (by simp only [maxL, List.length_singleton]; omega), Option.bind_some]
        rw [if_neg (by simp; omega)]
        simp
      have h5 := ih (pre ++ [x]) (acc ++ [⟨joinM w.m_ x, ((pre.length + 1 : Nat) : Int)⟩]) (by rw [e]; simp) (by simp only [List.length_append, List.length_singleton]; omega)
      unfold F.match_some_l3 at h5
      simp only [List.length_append, List.length_singleton] at h5
      rw [iter_eq, hs, Option.bind_some]
      simp only [h5, List.append_assoc, List.singleton_append]
    · rw [if_neg h]
      have hs : F.match_some_s3 a (n : Int) (ways, (k : Int)) w (acc, (pre.length : Int)) = some (.inr (.inl acc)) := by
        unfold F.match_some_s3
        simp only [hb]
        rw [if_neg (by simp; omega)]
      rw [iter_eq, hs]
      simp
def more (a : List match_Match) (r : Nat) (ways : List match_way) : List match_way := ways.flatMap fun w => ext w.m_ r (nxt w) (a.drop (nxt w))
theorem some_l2 (a : List match_Match) (n k r c : Nat) (ways : List match_way) (hn : n = k + r + 1) (hn2 : n ≤ 1000) (ha : Lens 100 a) (hl : a.length ≤ 100000) (hc : c ≤ 1000000) (hw : ∀ w ∈ ways, WayOk a c 0 w) (hways : ways.length ≤ 1000)
    (hm : (more a r ways).length ≤ 400) : F.match_some_l2 a (n : Int) (ways, (k : Int)) ([], 0) = some (.inl (more a r ways)) := by
  unfold F.match_some_l2
  rw [iter_fold0 ways (fun acc w => acc ++ ext w.m_ r (nxt w) (a.drop (nxt w))) (fun s => (.inl s : List match_way ⊕ (List match_Match × Int))) (fun pre s => s = more a r pre) ?_ ?_ (by rfl)]
  · rw [foldl_app]
    rfl
  · intro i pre t w s e hp hi hx hmem hs
    obtain ⟨w0, w1, w2, w3, w4⟩ := hw w hmem
    have hlen : (more a r ways).length = (more a r pre).length + ((ext w.m_ r (nxt w) (a.drop (nxt w))).length + (more a r t).length) := by
      rw [e]; simp [more]
    unfold F.match_some_s2
    simp only [lt_t hi, if_true, lidx_nat, hx, Option.bind_some]
    have hpre : (a.take (nxt w)).length = nxt w := by rw [List.length_take]; omega
    have h3 := some_l3 a n k r c ways w hn hn2 ha hl (by omega) (a.drop (nxt w)) (a.take (nxt w)) s (by rw [List.take_append_drop]) (by rw [hpre, hs]; omega)
    rw [hpre] at h3
    have hnx : w.next_ = ((nxt w : Nat) : Int) := by simp only [nxt]; omega
    rw [hnx, h3, Option.bind_some, wi1 hi (by simp only [maxI]; omega)]
    refine ⟨rfl, ?_⟩
    rw [hs]
    simp [more]
  · intro s _
    unfold F.match_some_s2
    simp
theorem flatMap_cong {α β : Type} {f g : α → List β} : ∀ {l : List α}, (∀ x ∈ l, f x = g x) → l.flatMap f = l.flatMap g
  | [], _ => rfl
  | x :: t, h => by
    rw [List.flatMap_cons, List.flatMap_cons, h x (List.mem_cons_self ..), flatMap_cong (l := t) fun y hy => h y (List.mem_cons_of_mem _ hy)]
theorem more_rest (a : List match_Match) (r c : Nat) (ways : List match_way) (hw : ∀ w ∈ ways, WayOk a c 0 w) : (more a r ways).flatMap (rest a r) = ways.flatMap (rest a (r + 1)) := by
  unfold more
  rw [List.flatMap_assoc]
  refine flatMap_cong fun w hm => ?_
  obtain ⟨w0, w1, w2, w3, w4⟩ := hw w hm
  have hpre : (a.take (nxt w)).length = nxt w := by rw [List.length_take]; omega
  have := ext_rest w.m_ r a (a.drop (nxt w)) (a.take (nxt w)) (by rw [List.take_append_drop])
  rw [hpre] at this
  exact this
theorem more_ok {a : List match_Match} {r c : Nat} {ways : List match_way} (ha : Lens 100 a) (hw : ∀ w ∈ ways, WayOk a c 0 w) : ∀ w ∈ more a r ways, WayOk a (c + 100) r w := by
  intro v hv
  unfold more at hv
  obtain ⟨w, hm, hv⟩ := List.mem_flatMap.1 hv
  obtain ⟨w0, w1, w2, w3, w4⟩ := hw w hm
  have hpre : (a.take (nxt w)).length = nxt w := by rw [List.length_take]; omega
  exact ext_ok ha ⟨w3, w4⟩ (a.drop (nxt w)) (a.take (nxt w)) (by rw [List.take_append_drop]) v (by rw [hpre]; exact hv)
theorem flatMap_ge {α β : Type} {f : α → List β} : ∀ {l : List α}, (∀ x ∈ l, 1 ≤ (f x).length) → l.length ≤ (l.flatMap f).length
  | [], _ => by simp
  | x :: t, h => by
    have h1 := flatMap_ge (l := t) fun y hy => h y (List.mem_cons_of_mem _ hy)
    have h2 := h x (List.mem_cons_self ..)
    simp only [List.flatMap_cons, List.length_append, List.length_cons]
    omega
theorem some_l1 (a : List match_Match) (n : Nat) (hn2 : n ≤ 1000) (ha : Lens 100 a) (hl : a.length ≤ 100000) (C : List match_Match) (hC : C.length ≤ 400) :
    ∀ (r k : Nat) (ways : List match_way), n = k + r → ways.flatMap (rest a r) = C → (∀ w ∈ ways, WayOk a (100 * k) 0 w) → ways.length ≤ 1000 →
      (C = [] ∧ F.match_some_l1 a (n : Int) (ways, (k : Int)) = some (.inr ([], 0))) ∨ (∃ ws, F.match_some_l1 a (n : Int) (ways, (k : Int)) = some (.inl ws) ∧ ws.map (·.m_) = C ∧ ws.length ≤ 1000) := by
  intro r
  induction r with
  | zero =>
    intro k ways hk hf hw hlen
    refine .inr ⟨ways, ?_, ?_, hlen⟩
    · have hs : F.match_some_s1 a (n : Int) (ways, (k : Int)) = some (.inr (.inl ways)) := by
        unfold F.match_some_s1
        simp only
        rw [if_neg (by simp; omega)]
      unfold F.match_some_l1
      rw [iter_eq, hs]
      rfl
    · rw [← hf]
      have : ∀ w : match_way, rest a 0 w = [w.m_] := fun w => by unfold rest; rw [combM_zero]
      rw [show rest a 0 = fun w => [w.m_] from funext this, flatMap_map (fun w : match_way => w.m_)]
  | succ r ih =>
    intro k ways hk hf hw hlen
    have hm := more_rest a r _ ways hw
    have hok := more_ok (r := r) ha hw
    have hlm : (more a r ways).length ≤ 400 := by
      have h1 : (more a r ways).length ≤ ((more a r ways).flatMap (rest a r)).length := flatMap_ge fun w hwm => by
        obtain ⟨_, _, g, _⟩ := hok w hwm
        exact combM_some _ _ _ (by rw [List.length_drop]; exact g)
      rw [hm, hf] at h1
      omega
    have h2 := some_l2 a n k r (100 * k) ways (by omega) hn2 ha hl (by omega) hw hlen hlm
    by_cases he : more a r ways = []
    · refine .inl ⟨by rw [← hf, ← hm, he]; rfl, ?_⟩
      have hs : F.match_some_s1 a (n : Int) (ways, (k : Int)) = some (.inr (.inr ([], 0))) := by
        unfold F.match_some_s1
        simp only
        rw [if_pos (by simp; omega), h2, he]
        rfl
      unfold F.match_some_l1
      rw [iter_eq, hs]
      rfl
    · have hs : F.match_some_s1 a (n : Int) (ways, (k : Int)) = some (.inl (more a r ways, ((k + 1 : Nat) : Int))) := by
        unfold F.match_some_s1
        simp only
        rw [if_pos (by simp; omega), h2, Option.bind_some]
        have hz : (((more a r ways).length : Int) == 0) = false := by simpa using he
        simp only [hz, Bool.false_eq_true, if_false]
        rw [wi64 (by omega) (by omega)]
        rfl
      have h3 := ih (k + 1) (more a r ways) (by omega) (by rw [hm, hf]) (fun w hwm => by
        obtain ⟨g0, g1, g2, g3, g4⟩ := hok w hwm
        exact ⟨g0, g1, by omega, by omega, by omega⟩) (by omega)
      have e : F.match_some_l1 a (n : Int) (ways, (k : Int)) = F.match_some_l1 a (n : Int) (more a r ways, ((k + 1 : Nat) : Int)) := by
        unfold F.match_some_l1
        rw [iter_eq, hs]
        rfl
      rw [e]
      exact h3
theorem some_l4 (ws : List match_way) (h : ws.length ≤ 1000) : F.match_some_l4 ws ([], 0) = some (ws.map (·.m_)) := by
  unfold F.match_some_l4
  rw [iter_fold0 ws (fun acc w => acc ++ [w.m_]) (fun s => s) (fun pre s => s.length = pre.length) ?_ ?_ rfl]
  · rw [foldl_app, flatMap_map (fun w : match_way => w.m_)]
    rfl
  · intro i pre t x s e hp hi hx _ hs
    unfold F.match_some_s4
    simp only [lt_t hi, if_true, lidx_nat, hx, Option.bind_some]
    rw [lapp_yes (by simp only [List.length_singleton, maxL]; omega), wi1 hi (by simp only [maxI]; omega)]
    simp [hs]
  · intro s _
    unfold F.match_some_s4
    simp
abbrev noM : match_Match := ⟨[], []⟩
theorem some_eq (a : List match_Match) (n : Nat) (hn2 : n ≤ 1000) (ha : Lens 100 a) (hl : a.length ≤ 100000) (hC : (combM noM a n).length ≤ 400) : F.match_some a (n : Int) = some (combM noM a n, 0) := by
  unfold F.match_some
  have h := some_l1 a n hn2 ha hl (combM noM a n) hC n 0 [⟨noM, 0⟩] (by omega) (by simp [rest, nxt]) (by
    intro w hw
    simp at hw
    subst hw
    exact ⟨by simp, by simp [nxt], by omega, by simp, by simp⟩) (by simp)
  rcases h with ⟨h1, h2⟩ | ⟨ws, h1, h2, h3⟩
  · rw [h1]
    have : F.match_some_l1 a (n : Int) ([⟨noM, 0⟩], 0) = some (.inr ([], 0)) := h2
    rw [this]
    rfl
  · have : F.match_some_l1 a (n : Int) ([⟨noM, 0⟩], 0) = some (.inl ws) := h1
    rw [this, Option.bind_some]
    simp only
    rw [some_l4 ws h3, h2]
    rfl
end Go.Proofs.Ytihbdelgoapeoaa.T
