/- Texts of signs alone. -/
import Derived.Test.YtkhhmjikohonfaaTU
namespace Go.Proofs.Ytkhhmjikohonfaa.T
open Go F
set_option linter.unusedVariables false
set_option linter.unusedSimpArgs false
set_option maxRecDepth 20000

theorem next_some {s : Str} {r n : Int} (h : dec s = some (r, n)) : F.utf_Next s = some (r, n) := by rw [next_eq, h]; rfl
theorem next_none {s : Str} (h : dec s = none) : F.utf_Next s = some (0, 0) := by rw [next_eq, h]; rfl

/-- Signs alone. -/
inductive Signs : Str → Prop
  | nil : Signs []
  | cons {r : Int} {t : Str} (h : isSign r) (k : Signs t) : Signs (enc r ++ t)

theorem Signs.inv {s : Str} (h : Signs s) : s = [] ∨ ∃ r t, isSign r ∧ s = enc r ++ t ∧ Signs t := by
  cases h with
  | nil => exact .inl rfl
  | cons h k => exact .inr ⟨_, _, h, rfl, k⟩
theorem enc_ne (r : Int) (t : Str) : enc r ++ t ≠ [] := fun h => by
  have := congrArg List.length h
  have h2 := enc_pos r
  simp only [List.length_append, List.length_nil] at this
  omega
theorem signs_dec {s : Str} (h : Signs s) (hs : s ≠ []) : ∃ r t, isSign r ∧ s = enc r ++ t ∧ Signs t ∧ dec s = some (r, ((enc r).length : Int)) := by
  rcases h.inv with rfl | ⟨r, t, h1, rfl, h2⟩
  · exact absurd rfl hs
  · exact ⟨r, t, h1, rfl, h2, dec_enc h1 t⟩
theorem enc_inj {r r' : Int} {t t' : Str} (h : isSign r) (h' : isSign r') (he : enc r ++ t = enc r' ++ t') : r = r' ∧ t = t' := by
  have h1 := dec_enc h t
  rw [he, dec_enc h' t'] at h1
  simp at h1
  obtain ⟨rfl, _⟩ := h1
  exact ⟨rfl, List.append_cancel_left he⟩
theorem signs_cons {r : Int} {t : Str} (h : isSign r) : Signs (enc r ++ t) ↔ Signs t := by
  constructor
  · intro hs
    obtain ⟨r', t', h1, h2, h3, _⟩ := signs_dec hs (enc_ne r t)
    obtain ⟨rfl, rfl⟩ := enc_inj h h1 h2
    exact h3
  · exact .cons h
theorem signs_app {a : Str} (h : Signs a) (t : Str) : Signs (a ++ t) ↔ Signs t := by
  induction h with
  | nil => simp
  | cons h k ih => rw [List.append_assoc, signs_cons h, ih]
theorem not_signs {s : Str} (h : dec s = none) (hs : s ≠ []) : ¬ Signs s := fun h2 => by
  obtain ⟨r, t, _, _, _, h3⟩ := signs_dec h2 hs
  rw [h] at h3
  cases h3

theorem right_step {s r n} (hs : s ≠ []) (h : F.utf_Next s = some (r, n)) : F.utf_Right_l1 s = if n = 0 then some (.inr false) else (lsub s n (s.length : Int)).bind F.utf_Right_l1 := by
  have hne : (s == ([] : Str)) = false := by simpa using hs
  have e : F.utf_Right_s1 s = if n = 0 then some (.inr (.inr false)) else (lsub s n (s.length : Int)).bind fun x => some (.inl x) := by
    unfold F.utf_Right_s1
    simp only [hne, Bool.not_false, if_true, h, Option.bind_some]
    by_cases hn : n = 0 <;> simp [hn]
  conv => lhs; unfold F.utf_Right_l1
  rw [iter_eq, e]
  by_cases hn : n = 0
  · simp [hn]
  · simp only [hn, if_false, Option.bind_assoc]
    congr 1
theorem right_nil : F.utf_Right_l1 [] = some (.inl ()) := by
  unfold F.utf_Right_l1
  rw [iter_eq]
  rfl
theorem lsub_nat {α : Type} (l : List α) (a b : Nat) (h1 : a ≤ b) (h2 : b ≤ l.length) : lsub l (a : Int) (b : Int) = some ((l.take b).drop a) := by
  unfold lsub
  rw [if_pos (by omega)]
  simp
theorem lsub_drop {α : Type} (a b : List α) : lsub (a ++ b) (a.length : Int) ((a ++ b).length : Int) = some b := by
  rw [lsub_nat _ _ _ (by simp) (Nat.le_refl _), List.take_length]
  simp
open Classical in
theorem right_eq (s : Str) : F.utf_Right s = some (decide (Signs s)) := by
  have key : ∀ m (s : Str), s.length ≤ m → F.utf_Right_l1 s = some (if Signs s then .inl () else .inr false) := by
    intro m
    induction m with
    | zero =>
      intro s hs
      obtain rfl : s = [] := List.eq_nil_of_length_eq_zero (by omega)
      rw [right_nil, if_pos Signs.nil]
    | succ m ih =>
      intro s hs
      by_cases hne : s = []
      · subst hne; rw [right_nil, if_pos Signs.nil]
      · cases hd : dec s with
        | none =>
          rw [right_step hne (next_none hd), if_pos rfl, if_neg (not_signs hd hne)]
        | some q =>
          obtain ⟨r, n⟩ := q
          obtain ⟨h1, h2, t, h3⟩ := dec_some hd
          have hp := enc_pos r
          rw [right_step hne (next_some hd), if_neg (by omega), h2]
          subst h3
          rw [lsub_drop, Option.bind_some, ih t (by simp only [List.length_append] at hs; omega)]
          simp only [signs_cons h1]
  unfold F.utf_Right
  rw [key s.length s (Nat.le_refl _)]
  by_cases h : Signs s <;> simp [h]
theorem lapp_ok {α : Type} {a b : List α} (h : a.length + b.length ≤ maxL) : lapp a b = some (a ++ b) := if_pos h
theorem lapp_nil {α : Type} {b : List α} (h : b.length ≤ maxL) : lapp [] b = some b := by rw [lapp_ok (by simpa using h)]; rfl
theorem isSign_put {b : Str} {r : Int} (h : isSign r) (hb : b.length ≤ 1000000) : F.utf_Put b r = some (b ++ enc r) := by
  have := enc_le r
  rw [put_eq, if_pos h, lapp_ok (by simp [maxL]; omega)]
theorem signs_enc {r : Int} (h : isSign r) : Signs (enc r) := by
  have := Signs.cons h Signs.nil
  rwa [List.append_nil] at this

theorem UtfPuts (x : Int) (b more : Str) (hx : -2147483648 ≤ x ∧ x ≤ 2147483647) (hb : b.length ≤ 9223372036854775807 ∧ ∀ a ∈ b, True) (hm : more.length ≤ 9223372036854775807) : F.law02_UtfPuts x b more = some true := by
  unfold F.law02_UtfPuts
  simp only [head_ok, Option.bind_some, Bool.not_true, Bool.false_eq_true, if_false]
  by_cases hl : b.length > 100 ∨ more.length > 100
  · have : (decide ((b.length : Int) > 100) || decide ((more.length : Int) > 100)) = true := by simp; omega
    simp [this]
  · have : (decide ((b.length : Int) > 100) || decide ((more.length : Int) > 100)) = false := by simp; omega
    simp only [this, Bool.false_eq_true, if_false]
    rw [lapp_nil (by simp [maxL]; omega)]
    simp only [Option.bind_some]
    rw [sign_eq]
    by_cases hs : isSign x
    · have he := enc_le x
      rw [isSign_put hs (by omega)]
      simp only [hs, decide_true, Option.bind_some, Bool.not_true, Bool.false_eq_true, if_false]
      rw [bytes_eq hs]
      simp only [Option.bind_some]
      rw [lapp_ok (by simp [maxL]; omega)]
      simp only [Option.bind_some]
      rw [next_some (dec_enc hs more)]
      simp only [Option.bind_some]
      rw [lapp_ok (by simp [maxL]; omega)]
      simp only [Option.bind_some, beq_self_eq_true, Bool.and_self, if_true]
      rw [right_eq]
      simp [signs_enc hs]
    · rw [put_eq, if_neg hs]
      simp [hs]

/-- What is begun by no sign. -/
theorem no_enc {s : Str} (h : dec s = none) {r : Int} (hr : isSign r) (t : Str) : s ≠ enc r ++ t := fun e => by
  rw [e, dec_enc hr] at h; cases h
theorem sget_some {s : Str} {k : Int} (h0 : 0 ≤ k) (h1 : k < s.length) : ∃ x, sget s k = some x := by
  obtain ⟨n, rfl⟩ := Int.eq_ofNat_of_zero_le h0
  have hn : n < s.length := by omega
  exact ⟨iv s[n], by simp [sget, hn]⟩
theorem inner_ok {s : Str} {k : Int} (hk : k ≤ s.length) (hk4 : k ≤ 4) : ∀ (m : Nat) (v i : Int), 0 ≤ i → k - i ≤ m → ∃ p, F.law02_UtfNexts_l2 s k (v, i) = some p := by
  intro m
  induction m with
  | zero =>
    intro v i hi hm
    have e : F.law02_UtfNexts_s2 s k (v, i) = some (.inr v) := by
      unfold F.law02_UtfNexts_s2
      simp [show ¬ (i < k) by omega]
    exact ⟨v, by unfold F.law02_UtfNexts_l2; rw [iter_eq, e]; rfl⟩
  | succ m ih =>
    intro v i hi hm
    by_cases hlt : i < k
    · obtain ⟨x, hx⟩ := sget_some hi (by omega : i < s.length)
      have e : ∃ v', F.law02_UtfNexts_s2 s k (v, i) = some (.inl (v', i + 1)) := by
        unfold F.law02_UtfNexts_s2
        simp only [hlt, decide_true, if_true, hx, Option.bind_some]
        rw [wi64 (n := i + 1) (by omega) (by omega)]
        exact ⟨_, rfl⟩
      obtain ⟨v', e⟩ := e
      obtain ⟨p, hp⟩ := ih v' (i + 1) (by omega) (by omega)
      refine ⟨p, ?_⟩
      unfold F.law02_UtfNexts_l2 at hp ⊢
      rw [iter_eq, e]
      exact hp
    · have e : F.law02_UtfNexts_s2 s k (v, i) = some (.inr v) := by
        unfold F.law02_UtfNexts_s2
        simp [hlt]
      exact ⟨v, by unfold F.law02_UtfNexts_l2; rw [iter_eq, e]; rfl⟩
theorem u64_nn (n : Int) : 0 ≤ IntKind.wrap .u64 n := by
  simp only [IntKind.wrap, IntKind.bits, IntKind.signed]
  simp
  omega
theorem outer_ok {s : Str} (hd : dec s = none) : ∀ (m : Nat) (k : Int), 1 ≤ k → 5 - k ≤ m → F.law02_UtfNexts_l1 s k = some (.inl ()) := by
  have stop : ∀ k : Int, (4 < k ∨ (s.length : Int) < k) → F.law02_UtfNexts_l1 s k = some (.inl ()) := by
    intro k hk
    have e : F.law02_UtfNexts_s1 s k = some (.inr (.inl ())) := by
      unfold F.law02_UtfNexts_s1
      have : (decide (k ≤ 4) && decide (k ≤ (s.length : Int))) = false := by simp; omega
      simp [this]
    unfold F.law02_UtfNexts_l1
    rw [iter_eq, e]
    rfl
  intro m
  induction m with
  | zero => intro k h1 h2; exact stop k (by omega)
  | succ m ih =>
    intro k h1 h2
    by_cases hk : 4 < k ∨ (s.length : Int) < k
    · exact stop k hk
    · have hc : (decide (k ≤ 4) && decide (k ≤ (s.length : Int))) = true := by simp; omega
      obtain ⟨x0, hx0⟩ := sget_some (s := s) (k := 0) (by omega) (by omega)
      have e : F.law02_UtfNexts_s1 s k = some (.inl (k + 1)) := by
        unfold F.law02_UtfNexts_s1
        simp only [hc, Option.bind_some, if_true, hx0]
        have hj : ∃ j, (if decide (k > 1) = true then (nn (IntKind.wrap .u64 k)).bind fun x97 => some (band .i64 (IntKind.wrap .i64 x0) (bshr .i64 127 (IntKind.wrap .u64 k))) else some (IntKind.wrap .i64 x0)) = some j := by
          by_cases g : k > 1
          · have : nn (IntKind.wrap .u64 k) = some () := if_pos (u64_nn k)
            simp [g, this]
          · simp [g]
        obtain ⟨j, hj⟩ := hj
        rw [hj]
        simp only [Option.bind_some]
        obtain ⟨p, hp⟩ := inner_ok (s := s) (k := k) (by omega) (by omega) 4 j 1 (by omega) (by omega)
        rw [hp]
        simp only [Option.bind_some]
        rw [sign_eq]
        simp only [Option.bind_some]
        have hno : (if decide (isSign (IntKind.wrap .i32 p)) = true then (F.law02_bytes (IntKind.wrap .i32 p)).bind fun x120 => (lsub s 0 k).bind fun x122 => some (x120 == x122) else some false) = some false := by
          by_cases hs : isSign (IntKind.wrap .i32 p)
          · simp only [hs, decide_true, if_true]
            rw [bytes_eq hs]
            have hl : lsub s 0 k = some (s.take k.toNat) := by
              unfold lsub
              rw [if_pos (by omega)]
              simp
            rw [hl]
            simp only [Option.bind_some]
            have : ¬ (enc (IntKind.wrap .i32 p) = s.take k.toNat) := fun he => no_enc hd hs (s.drop k.toNat) (by rw [he, List.take_append_drop])
            simp [this]
          · simp [hs]
        rw [hno]
        simp only [Option.bind_some, Bool.false_eq_true, if_false]
        rw [wi64 (by omega) (by omega)]
      have h3 := ih (k + 1) (by omega) (by omega)
      unfold F.law02_UtfNexts_l1 at h3 ⊢
      rw [iter_eq, e]
      exact h3
theorem UtfNexts (s : Str) (hs : s.length ≤ 9223372036854775807) : F.law02_UtfNexts s = some true := by
  unfold F.law02_UtfNexts
  simp only [head_ok, Option.bind_some, Bool.not_true, Bool.false_eq_true, if_false]
  by_cases hl : (s.length : Int) > 50
  · simp [hl]
  · simp only [hl, decide_false, Bool.false_eq_true, if_false]
    cases hd : dec s with
    | some q =>
      obtain ⟨r, n⟩ := q
      obtain ⟨h1, h2, t, h3⟩ := dec_some hd
      have hp := enc_pos r
      rw [next_some hd]
      simp only [Option.bind_some]
      have hn : n > 0 := by omega
      simp only [hn, decide_true, if_true]
      rw [sign_eq]
      have hle : n ≤ (s.length : Int) := by rw [h3, h2]; simp only [List.length_append]; omega
      simp only [h1, decide_true, Option.bind_some, hle, Bool.and_self, if_true]
      have hlx : lsub s 0 n = some (enc r) := by
        unfold lsub
        rw [if_pos (by omega), h2, h3]
        simp
      rw [hlx, bytes_eq h1]
      simp
    | none =>
      rw [next_none hd]
      simp only [Option.bind_some, Int.lt_irrefl, decide_false, Bool.false_eq_true, if_false, gt_iff_lt]
      rw [outer_ok hd 4 1 (by omega) (by omega)]
      simp only [Option.bind_some]
      rw [right_eq]
      by_cases he : s = []
      · subst he; simp
      · simp [not_signs hd he]

theorem dec_cont {b : UInt8} {t : Str} (h : cont b) : dec (b :: t) = none := by
  unfold cont at h
  rw [dec_cons, dec1, if_neg (by omega), if_neg (by omega), if_neg (by omega), if_neg (by omega)]
theorem enc_tail {r : Int} (h : isSign r) (hl : 2 ≤ (enc r).length) : ∃ a b t, enc r = a :: b :: t ∧ cont b := by
  obtain ⟨h0, h1, _⟩ := h
  unfold enc at hl ⊢
  split
  · rename_i g; rw [if_pos g] at hl; simp at hl
  · split
    · exact ⟨_, _, _, rfl, cont_u8 (by omega) (by omega)⟩
    · split
      · exact ⟨_, _, _, rfl, cont_u8 (by omega) (by omega)⟩
      · exact ⟨_, _, _, rfl, cont_u8 (by omega) (by omega)⟩
/-- A sign's bytes without the last one are none's. -/
theorem dec_less {r : Int} (h : isSign r) (hl : 2 ≤ (enc r).length) : dec ((enc r).take ((enc r).length - 1)) = none := by
  cases hd : dec ((enc r).take ((enc r).length - 1)) with
  | none => rfl
  | some q =>
    obtain ⟨r', n⟩ := q
    obtain ⟨h1, h2, t, h3⟩ := dec_some hd
    have e : enc r = enc r' ++ (t ++ (enc r).drop ((enc r).length - 1)) := by
      rw [← List.append_assoc, ← h3, List.take_append_drop]
    have e2 : enc r ++ [] = enc r' ++ (t ++ (enc r).drop ((enc r).length - 1)) := by rw [List.append_nil]; exact e
    obtain ⟨rfl, h5⟩ := enc_inj h h1 e2
    have h6 := congrArg List.length h5
    simp at h6
    omega
theorem UtfJoins (a b : Str) (c : Int) (ha : a.length ≤ 9223372036854775807) (hb : b.length ≤ 9223372036854775807) (hc : -2147483648 ≤ c ∧ c ≤ 2147483647) : F.law02_UtfJoins a b c = some true := by
  unfold F.law02_UtfJoins
  simp only [head_ok, Option.bind_some, Bool.not_true, Bool.false_eq_true, if_false]
  by_cases hl : a.length > 100 ∨ b.length > 100
  · have : (decide ((a.length : Int) > 100) || decide ((b.length : Int) > 100)) = true := by simp; omega
    simp [this]
  · have : (decide ((a.length : Int) > 100) || decide ((b.length : Int) > 100)) = false := by simp; omega
    simp only [this, Bool.false_eq_true, if_false, right_eq, Option.bind_some]
    by_cases hsa : Signs a
    · by_cases hsb : Signs b
      · have hab : Signs (a ++ b) := (signs_app hsa b).2 hsb
        simp only [hsa, hsb, decide_true, Bool.not_true, Bool.false_eq_true, if_false, Option.bind_some]
        rw [lapp_ok (by simp [maxL]; omega), lapp_ok (a := a) (b := [128]) (by simp [maxL]; omega), lapp_ok (a := a) (b := [255]) (by simp [maxL]; omega)]
        simp only [Option.bind_some, right_eq, hab, decide_true, Bool.not_true, Bool.false_eq_true, if_false]
        rw [lapp_ok (by simp [maxL]; omega)]
        have n1 : ¬ Signs (a ++ [128] ++ b) := by
          rw [List.append_assoc, signs_app hsa]
          exact not_signs (dec_cont (by decide)) (by simp)
        have n2 : ¬ Signs (a ++ [255]) := by
          rw [signs_app hsa]
          exact not_signs (by decide) (by simp)
        simp only [Option.bind_some, right_eq, n1, n2, decide_false, Bool.false_eq_true, if_false]
        by_cases hs : isSign c
        · have hle := enc_le c
          rw [isSign_put hs (by simp)]
          simp only [Option.bind_some, List.nil_append]
          by_cases h2 : ((enc c).length : Int) < 2
          · simp [h2]
          · have h2' : 2 ≤ (enc c).length := by omega
            simp only [h2, decide_false, Bool.false_eq_true, if_false]
            rw [lapp_ok (a := a) (b := enc c) (by simp [maxL]; omega)]
            simp only [Option.bind_some]
            rw [lapp_ok (by simp [maxL]; omega)]
            have p1 : Signs (a ++ enc c ++ b) := by rw [List.append_assoc, signs_app hsa, signs_cons hs]; exact hsb
            simp only [Option.bind_some, p1, decide_true, if_true]
            rw [wi64 (by omega) (by omega)]
            have s1 : lsub (enc c) 0 (((enc c).length : Int) - 1) = some ((enc c).take ((enc c).length - 1)) := by
              unfold lsub
              rw [if_pos (by omega)]
              have : (((enc c).length : Int) - 1).toNat = (enc c).length - 1 := by omega
              simp [this]
            rw [s1]
            simp only [Option.bind_some]
            rw [lapp_ok (by simp [maxL]; omega)]
            have p2 : ¬ Signs (a ++ (enc c).take ((enc c).length - 1)) := by
              rw [signs_app hsa]
              refine not_signs (dec_less hs h2') ?_
              intro he
              have := congrArg List.length he
              simp at this
              omega
            simp only [Option.bind_some, right_eq, p2, decide_false, Bool.not_false, if_true]
            obtain ⟨x, y, t, he, hy⟩ := enc_tail hs h2'
            have s2 : lsub (enc c) 1 ((enc c).length : Int) = some (y :: t) := by
              have h7 := lsub_nat (enc c) 1 (enc c).length (by omega) (Nat.le_refl _)
              rw [List.take_length, he] at h7
              rw [he]
              exact h7
            rw [s2]
            simp only [Option.bind_some]
            have hl2 : (y :: t).length ≤ 4 := by rw [he] at hle; simp at hle ⊢; omega
            rw [lapp_ok (by simp only [maxL]; omega)]
            have p3 : ¬ Signs (y :: (t ++ b)) := not_signs (dec_cont hy) (by simp)
            simp [right_eq, p3]
        · rw [put_eq, if_neg hs]
          simp
      · simp [hsb]
    · simp [hsa]
end Go.Proofs.Ytkhhmjikohonfaa.T
