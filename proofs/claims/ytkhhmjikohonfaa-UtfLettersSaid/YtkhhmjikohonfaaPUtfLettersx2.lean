-- Written by a program of this session for the claim (a changed use of the kit's printer; not the printer's own print).
import Derived.Test.YtkhhmjikohonfaaPUtfLettersx0
namespace Go.Proofs.Ytkhhmjikohonfaa.PUtfLetters
open Go.RowKit Go.Proofs.YtkhhmjikohonfaaW.PrintWords Go.Proofs.YtkhhmjikohonfaaW.PrintLast Go.Proofs.YtkhhmjikohonfaaW.PrintMore
attribute [local go_sem] max2_int min2_int max_two min_two max_three min_three max_four min_four   -- for this text's walks alone
set_option linter.unusedVariables false
set_option linter.unusedSimpArgs false

/-! ### utf_Letter: function 14 -/
def utf_Letter.j0 : Nat → Int → Bool → Option (Bool)
  | 0, _, _ => none
  | k + 1, x0, x41 => if x41 = true then (some false) else (if x0 ≥ 8192 then (if x0 ≤ 8303 then (some false) else (if x0 ≥ 12288 then (if x0 ≤ 12292 then (some false) else (if x0 ≥ 12296 then (if x0 ≤ 12320 then (some false) else (some true)) else (some true))) else (if x0 ≥ 12296 then (if x0 ≤ 12320 then (some false) else (some true)) else (some true)))) else (if x0 ≥ 12288 then (if x0 ≤ 12292 then (some false) else (if x0 ≥ 12296 then (if x0 ≤ 12320 then (some false) else (some true)) else (some true))) else (if x0 ≥ 12296 then (if x0 ≤ 12320 then (some false) else (some true)) else (some true))))
def utf_Letter.f (k : Nat) (a0 : Int) : Option (Bool) := if a0 < 128 then (if a0 ≥ 48 then (if a0 ≤ 57 then (some true) else (if a0 ≥ 65 then (if a0 ≤ 90 then (some true) else (if a0 ≥ 97 then (some (decide (a0 ≤ 122))) else (some false))) else (if a0 ≥ 97 then (some (decide (a0 ≤ 122))) else (some false)))) else (if a0 ≥ 65 then (if a0 ≤ 90 then (some true) else (if a0 ≥ 97 then (some (decide (a0 ≤ 122))) else (some false))) else (if a0 ≥ 97 then (some (decide (a0 ≤ 122))) else (some false)))) else (if a0 < 192 then (if a0 = 170 then (some true) else (if a0 = 181 then (some true) else (some (a0 == 186)))) else (if a0 = 215 then (utf_Letter.j0 k a0 true) else (utf_Letter.j0 k a0 (a0 == 247))))
theorem utf_Letter.mono_l : ∀ k, (∀ y0 y1, LeO (utf_Letter.j0 k y0 y1) (utf_Letter.j0 (k + 1) y0 y1))
  | 0 => fun _ _ r h => by simp [utf_Letter.j0] at h
  | k + 1 => by
    have ih0 := utf_Letter.mono_l k
    · intro y0 y1
      unfold utf_Letter.j0
      repeat' first
      | (with_reducible exact ih0 _ _)
      | (with_reducible exact LeO.refl _)
      | (with_reducible exact LeO.none _)
      | (with_reducible refine LeO.ite ?_ ?_)
      | (with_reducible refine LeO.bind ?_ (fun _ => ?_))
      | exact ih0 _ _
      | exact LeO.none _
      | refine LeO.ite ?_ ?_
      | refine LeO.bind ?_ (fun _ => ?_)
theorem utf_Letter.mono : ∀ a0 k, LeO (utf_Letter.f k a0) (utf_Letter.f (k + 1) a0) := by
  intro a0 k
  have ih0 := utf_Letter.mono_l k
  unfold utf_Letter.f
  repeat' first
      | (with_reducible exact ih0 _ _)
      | (with_reducible exact LeO.refl _)
      | (with_reducible exact LeO.none _)
      | (with_reducible refine LeO.ite ?_ ?_)
      | (with_reducible refine LeO.bind ?_ (fun _ => ?_))
      | exact ih0 _ _
      | exact LeO.none _
      | refine LeO.ite ?_ ?_
      | refine LeO.bind ?_ (fun _ => ?_)
set_option maxHeartbeats 8000000 in
set_option maxRecDepth 100000 in
theorem utf_Letter.calls (k : Nat) (a0 : Int) (r : Bool) (w : World) (h : utf_Letter.f k a0 = some r) :
    Calls Try.prog 14 #[.int .i32 a0] w fun e w' => e = .returned (.bool r) ∧ Drawn0 w w' := by
  have H : (if a0 < 128 then (if a0 ≥ 48 then (if a0 ≤ 57 then (some true) else (if a0 ≥ 65 then (if a0 ≤ 90 then (some true) else (if a0 ≥ 97 then (some (decide (a0 ≤ 122))) else (some false))) else (if a0 ≥ 97 then (some (decide (a0 ≤ 122))) else (some false)))) else (if a0 ≥ 65 then (if a0 ≤ 90 then (some true) else (if a0 ≥ 97 then (some (decide (a0 ≤ 122))) else (some false))) else (if a0 ≥ 97 then (some (decide (a0 ≤ 122))) else (some false)))) else (if a0 < 192 then (if a0 = 170 then (some true) else (if a0 = 181 then (some true) else (some (a0 == 186)))) else (if a0 = 215 then (utf_Letter.j0 k a0 true) else (utf_Letter.j0 k a0 (a0 == 247))))) = some r := h
  clear h
  by_cases c2 : a0 < 128
  · rw [if_pos c2] at H
    have c2b0 : decide (a0 < 128) = true := decide_eq_true c2
    clear c2
    by_cases c3 : a0 ≥ 48
    · rw [if_pos c3] at H
      have c3b0 : decide (48 ≤ a0) = true := decide_eq_true c3
      clear c3
      by_cases c4 : a0 ≤ 57
      · rw [if_pos c4] at H
        have c4b0 : decide (a0 ≤ 57) = true := decide_eq_true c4
        clear c4
        obtain rfl := Option.some.inj H
        go_enter Try.func14, Try.ntmps14
        go_wp2
        go_ret
        exact ⟨by first | rfl | (simp; done) | (simp [*]; done), by repeat (first | exact Drawn0.refl _ | apply Drawn0.step)⟩
      · rw [if_neg c4] at H
        have c4b0 : decide (a0 ≤ 57) = false := decide_eq_false c4
        clear c4
        by_cases c5 : a0 ≥ 65
        · rw [if_pos c5] at H
          have c5b0 : decide (65 ≤ a0) = true := decide_eq_true c5
          clear c5
          by_cases c6 : a0 ≤ 90
          · rw [if_pos c6] at H
            have c6b0 : decide (a0 ≤ 90) = true := decide_eq_true c6
            clear c6
            obtain rfl := Option.some.inj H
            go_enter Try.func14, Try.ntmps14
            go_wp2
            go_ret
            exact ⟨by first | rfl | (simp; done) | (simp [*]; done), by repeat (first | exact Drawn0.refl _ | apply Drawn0.step)⟩
          · rw [if_neg c6] at H
            have c6b0 : decide (a0 ≤ 90) = false := decide_eq_false c6
            clear c6
            by_cases c7 : a0 ≥ 97
            · rw [if_pos c7] at H
              have c7b0 : decide (97 ≤ a0) = true := decide_eq_true c7
              clear c7
              obtain rfl := Option.some.inj H
              go_enter Try.func14, Try.ntmps14
              go_wp2
              go_ret
              exact ⟨by first | rfl | (simp; done) | (simp [*]; done), by repeat (first | exact Drawn0.refl _ | apply Drawn0.step)⟩
            · rw [if_neg c7] at H
              have c7b0 : decide (97 ≤ a0) = false := decide_eq_false c7
              clear c7
              obtain rfl := Option.some.inj H
              go_enter Try.func14, Try.ntmps14
              go_wp2
              go_ret
              exact ⟨by first | rfl | (simp; done) | (simp [*]; done), by repeat (first | exact Drawn0.refl _ | apply Drawn0.step)⟩
        · rw [if_neg c5] at H
          have c5b0 : decide (65 ≤ a0) = false := decide_eq_false c5
          clear c5
          by_cases c8 : a0 ≥ 97
          · rw [if_pos c8] at H
            have c8b0 : decide (97 ≤ a0) = true := decide_eq_true c8
            clear c8
            obtain rfl := Option.some.inj H
            go_enter Try.func14, Try.ntmps14
            go_wp2
            go_ret
            exact ⟨by first | rfl | (simp; done) | (simp [*]; done), by repeat (first | exact Drawn0.refl _ | apply Drawn0.step)⟩
          · rw [if_neg c8] at H
            have c8b0 : decide (97 ≤ a0) = false := decide_eq_false c8
            clear c8
            obtain rfl := Option.some.inj H
            go_enter Try.func14, Try.ntmps14
            go_wp2
            go_ret
            exact ⟨by first | rfl | (simp; done) | (simp [*]; done), by repeat (first | exact Drawn0.refl _ | apply Drawn0.step)⟩
    · rw [if_neg c3] at H
      have c3b0 : decide (48 ≤ a0) = false := decide_eq_false c3
      clear c3
      by_cases c9 : a0 ≥ 65
      · rw [if_pos c9] at H
        have c9b0 : decide (65 ≤ a0) = true := decide_eq_true c9
        clear c9
        by_cases c10 : a0 ≤ 90
        · rw [if_pos c10] at H
          have c10b0 : decide (a0 ≤ 90) = true := decide_eq_true c10
          clear c10
          obtain rfl := Option.some.inj H
          go_enter Try.func14, Try.ntmps14
          go_wp2
          go_ret
          exact ⟨by first | rfl | (simp; done) | (simp [*]; done), by repeat (first | exact Drawn0.refl _ | apply Drawn0.step)⟩
        · rw [if_neg c10] at H
          have c10b0 : decide (a0 ≤ 90) = false := decide_eq_false c10
          clear c10
          by_cases c11 : a0 ≥ 97
          · rw [if_pos c11] at H
            have c11b0 : decide (97 ≤ a0) = true := decide_eq_true c11
            clear c11
            obtain rfl := Option.some.inj H
            go_enter Try.func14, Try.ntmps14
            go_wp2
            go_ret
            exact ⟨by first | rfl | (simp; done) | (simp [*]; done), by repeat (first | exact Drawn0.refl _ | apply Drawn0.step)⟩
          · rw [if_neg c11] at H
            have c11b0 : decide (97 ≤ a0) = false := decide_eq_false c11
            clear c11
            obtain rfl := Option.some.inj H
            go_enter Try.func14, Try.ntmps14
            go_wp2
            go_ret
            exact ⟨by first | rfl | (simp; done) | (simp [*]; done), by repeat (first | exact Drawn0.refl _ | apply Drawn0.step)⟩
      · rw [if_neg c9] at H
        have c9b0 : decide (65 ≤ a0) = false := decide_eq_false c9
        clear c9
        by_cases c12 : a0 ≥ 97
        · rw [if_pos c12] at H
          have c12b0 : decide (97 ≤ a0) = true := decide_eq_true c12
          clear c12
          obtain rfl := Option.some.inj H
          go_enter Try.func14, Try.ntmps14
          go_wp2
          go_ret
          exact ⟨by first | rfl | (simp; done) | (simp [*]; done), by repeat (first | exact Drawn0.refl _ | apply Drawn0.step)⟩
        · rw [if_neg c12] at H
          have c12b0 : decide (97 ≤ a0) = false := decide_eq_false c12
          clear c12
          obtain rfl := Option.some.inj H
          go_enter Try.func14, Try.ntmps14
          go_wp2
          go_ret
          exact ⟨by first | rfl | (simp; done) | (simp [*]; done), by repeat (first | exact Drawn0.refl _ | apply Drawn0.step)⟩
  · rw [if_neg c2] at H
    have c2b0 : decide (a0 < 128) = false := decide_eq_false c2
    clear c2
    by_cases c13 : a0 < 192
    · rw [if_pos c13] at H
      have c13b0 : decide (a0 < 192) = true := decide_eq_true c13
      clear c13
      by_cases c14 : a0 = 170
      · rw [if_pos c14] at H
        have c14b0 : (a0 == 170) = true := beq_iff_eq.mpr c14
        have c14b1 : (a0 != 170) = false := bne_eq_false_iff_eq.mpr c14
        clear c14
        obtain rfl := Option.some.inj H
        go_enter Try.func14, Try.ntmps14
        go_wp2
        go_ret
        exact ⟨by first | rfl | (simp; done) | (simp [*]; done), by repeat (first | exact Drawn0.refl _ | apply Drawn0.step)⟩
      · rw [if_neg c14] at H
        have c14b0 : (a0 == 170) = false := beq_eq_false_iff_ne.mpr c14
        have c14b1 : (a0 != 170) = true := bne_iff_ne.mpr c14
        by_cases c15 : a0 = 181
        · rw [if_pos c15] at H
          have c15b0 : (a0 == 181) = true := beq_iff_eq.mpr c15
          have c15b1 : (a0 != 181) = false := bne_eq_false_iff_eq.mpr c15
          clear c15
          obtain rfl := Option.some.inj H
          go_enter Try.func14, Try.ntmps14
          go_wp2
          go_ret
          exact ⟨by first | rfl | (simp; done) | (simp [*]; done), by repeat (first | exact Drawn0.refl _ | apply Drawn0.step)⟩
        · rw [if_neg c15] at H
          have c15b0 : (a0 == 181) = false := beq_eq_false_iff_ne.mpr c15
          have c15b1 : (a0 != 181) = true := bne_iff_ne.mpr c15
          obtain rfl := Option.some.inj H
          go_enter Try.func14, Try.ntmps14
          go_wp2
          go_ret
          exact ⟨by first | rfl | (simp; done) | (simp [*]; done), by repeat (first | exact Drawn0.refl _ | apply Drawn0.step)⟩
    · rw [if_neg c13] at H
      have c13b0 : decide (a0 < 192) = false := decide_eq_false c13
      clear c13
      have HC16 := Aside0.mk H
      clear H
      go_enter Try.func14, Try.ntmps14
      go_upto_region 5 with (fail)
      go_cut [41] (fun v41 wc => ∃ (kq : Nat) (x41_15 : Bool), v41 = .bool x41_15 ∧ Aside0 (utf_Letter.j0 kq a0 x41_15 = some r) ∧ Aside0 (kq ≤ k) ∧ Drawn0 w wc)
      case first =>
        have H := HC16.out
        clear HC16
        by_cases c17 : a0 = 215
        · rw [if_pos c17] at H
          have c17b0 : (a0 == 215) = true := beq_iff_eq.mpr c17
          have c17b1 : (a0 != 215) = false := bne_eq_false_iff_eq.mpr c17
          clear c17
          (first | rw [c17b0] | (simp only [i64_w, i32_w]; rw [c17b0]) | skip)
          have H' := Aside0.mk H
          clear H
          go_wp2
          go_meet
          case rel => exact ⟨_, (true), (by first | rfl | (simp; done) | (simp [*]; done)), H', ⟨by first | omega | exact Nat.le_refl _⟩, by repeat (first | exact Drawn0.refl _ | apply Drawn0.step)⟩
        · rw [if_neg c17] at H
          have c17b0 : (a0 == 215) = false := beq_eq_false_iff_ne.mpr c17
          have c17b1 : (a0 != 215) = true := bne_iff_ne.mpr c17
          (first | rw [c17b0] | (simp only [i64_w, i32_w]; rw [c17b0]) | skip)
          have H' := Aside0.mk H
          clear H
          go_wp2
          go_meet
          case rel => exact ⟨_, ((a0 == 247)), (by first | rfl | (simp; done) | (simp [*]; done)), H', ⟨by first | omega | exact Nat.le_refl _⟩, by repeat (first | exact Drawn0.refl _ | apply Drawn0.step)⟩
      case rest =>
        clear HC16
        try clear c1
        try clear c2
        try clear c2b0
        try clear p2
        try clear c3
        try clear c3b0
        try clear c4
        try clear c4b0
        try clear c5
        try clear c5b0
        try clear c6
        try clear c6b0
        try clear c7
        try clear c7b0
        try clear c8
        try clear c8b0
        try clear c9
        try clear c9b0
        try clear c10
        try clear c10b0
        try clear c11
        try clear c11b0
        try clear c12
        try clear c12b0
        try clear c13
        try clear c13b0
        try clear c14
        try clear c14b0
        try clear c14b1
        try clear c15
        try clear c15b0
        try clear c15b1
        try clear c17
        try clear c17b0
        try clear c17b1
        obtain ⟨kq, x41_15, rfl, HA, HJ15, ⟨mc15, rfl⟩⟩ := hcut
        cases kq with
        | zero => exact absurd HA.out (by simp [utf_Letter.j0])
        | succ kj15 =>
          have H := HA.out
          clear HA
          simp only [utf_Letter.j0] at H
          by_cases c18 : x41_15 = true
          · subst c18
            have H1 : (some false) = some r := by rw [if_pos rfl] at H; exact H
            clear H
            have H := H1
            clear H1
            obtain rfl := Option.some.inj H
            go_wp2
            go_ret
            exact ⟨by first | rfl | (simp; done) | (simp [*]; done), by repeat (first | exact Drawn0.refl _ | apply Drawn0.step)⟩
          · replace c18 := Bool.eq_false_iff.mpr c18
            subst c18
            have H1 : (if a0 ≥ 8192 then (if a0 ≤ 8303 then (some false) else (if a0 ≥ 12288 then (if a0 ≤ 12292 then (some false) else (if a0 ≥ 12296 then (if a0 ≤ 12320 then (some false) else (some true)) else (some true))) else (if a0 ≥ 12296 then (if a0 ≤ 12320 then (some false) else (some true)) else (some true)))) else (if a0 ≥ 12288 then (if a0 ≤ 12292 then (some false) else (if a0 ≥ 12296 then (if a0 ≤ 12320 then (some false) else (some true)) else (some true))) else (if a0 ≥ 12296 then (if a0 ≤ 12320 then (some false) else (some true)) else (some true)))) = some r := by rw [if_neg (show ¬ (false = true) by decide)] at H; exact H
            clear H
            have H := H1
            clear H1
            by_cases c19 : a0 ≥ 8192
            · rw [if_pos c19] at H
              have c19b0 : decide (8192 ≤ a0) = true := decide_eq_true c19
              clear c19
              by_cases c20 : a0 ≤ 8303
              · rw [if_pos c20] at H
                have c20b0 : decide (a0 ≤ 8303) = true := decide_eq_true c20
                clear c20
                obtain rfl := Option.some.inj H
                go_wp2
                go_ret
                exact ⟨by first | rfl | (simp; done) | (simp [*]; done), by repeat (first | exact Drawn0.refl _ | apply Drawn0.step)⟩
              · rw [if_neg c20] at H
                have c20b0 : decide (a0 ≤ 8303) = false := decide_eq_false c20
                clear c20
                by_cases c21 : a0 ≥ 12288
                · rw [if_pos c21] at H
                  have c21b0 : decide (12288 ≤ a0) = true := decide_eq_true c21
                  clear c21
                  by_cases c22 : a0 ≤ 12292
                  · rw [if_pos c22] at H
                    have c22b0 : decide (a0 ≤ 12292) = true := decide_eq_true c22
                    clear c22
                    obtain rfl := Option.some.inj H
                    go_wp2
                    go_ret
                    exact ⟨by first | rfl | (simp; done) | (simp [*]; done), by repeat (first | exact Drawn0.refl _ | apply Drawn0.step)⟩
                  · rw [if_neg c22] at H
                    have c22b0 : decide (a0 ≤ 12292) = false := decide_eq_false c22
                    clear c22
                    by_cases c23 : a0 ≥ 12296
                    · rw [if_pos c23] at H
                      have c23b0 : decide (12296 ≤ a0) = true := decide_eq_true c23
                      clear c23
                      by_cases c24 : a0 ≤ 12320
                      · rw [if_pos c24] at H
                        have c24b0 : decide (a0 ≤ 12320) = true := decide_eq_true c24
                        clear c24
                        obtain rfl := Option.some.inj H
                        go_wp2
                        go_ret
                        exact ⟨by first | rfl | (simp; done) | (simp [*]; done), by repeat (first | exact Drawn0.refl _ | apply Drawn0.step)⟩
                      · rw [if_neg c24] at H
                        have c24b0 : decide (a0 ≤ 12320) = false := decide_eq_false c24
                        clear c24
                        obtain rfl := Option.some.inj H
                        go_wp2
                        go_ret
                        exact ⟨by first | rfl | (simp; done) | (simp [*]; done), by repeat (first | exact Drawn0.refl _ | apply Drawn0.step)⟩
                    · rw [if_neg c23] at H
                      have c23b0 : decide (12296 ≤ a0) = false := decide_eq_false c23
                      clear c23
                      obtain rfl := Option.some.inj H
                      go_wp2
                      go_ret
                      exact ⟨by first | rfl | (simp; done) | (simp [*]; done), by repeat (first | exact Drawn0.refl _ | apply Drawn0.step)⟩
                · rw [if_neg c21] at H
                  have c21b0 : decide (12288 ≤ a0) = false := decide_eq_false c21
                  clear c21
                  by_cases c25 : a0 ≥ 12296
                  · rw [if_pos c25] at H
                    have c25b0 : decide (12296 ≤ a0) = true := decide_eq_true c25
                    clear c25
                    by_cases c26 : a0 ≤ 12320
                    · rw [if_pos c26] at H
                      have c26b0 : decide (a0 ≤ 12320) = true := decide_eq_true c26
                      clear c26
                      obtain rfl := Option.some.inj H
                      go_wp2
                      go_ret
                      exact ⟨by first | rfl | (simp; done) | (simp [*]; done), by repeat (first | exact Drawn0.refl _ | apply Drawn0.step)⟩
                    · rw [if_neg c26] at H
                      have c26b0 : decide (a0 ≤ 12320) = false := decide_eq_false c26
                      clear c26
                      obtain rfl := Option.some.inj H
                      go_wp2
                      go_ret
                      exact ⟨by first | rfl | (simp; done) | (simp [*]; done), by repeat (first | exact Drawn0.refl _ | apply Drawn0.step)⟩
                  · rw [if_neg c25] at H
                    have c25b0 : decide (12296 ≤ a0) = false := decide_eq_false c25
                    clear c25
                    obtain rfl := Option.some.inj H
                    go_wp2
                    go_ret
                    exact ⟨by first | rfl | (simp; done) | (simp [*]; done), by repeat (first | exact Drawn0.refl _ | apply Drawn0.step)⟩
            · rw [if_neg c19] at H
              have c19b0 : decide (8192 ≤ a0) = false := decide_eq_false c19
              clear c19
              by_cases c27 : a0 ≥ 12288
              · rw [if_pos c27] at H
                have c27b0 : decide (12288 ≤ a0) = true := decide_eq_true c27
                clear c27
                by_cases c28 : a0 ≤ 12292
                · rw [if_pos c28] at H
                  have c28b0 : decide (a0 ≤ 12292) = true := decide_eq_true c28
                  clear c28
                  obtain rfl := Option.some.inj H
                  go_wp2
                  go_ret
                  exact ⟨by first | rfl | (simp; done) | (simp [*]; done), by repeat (first | exact Drawn0.refl _ | apply Drawn0.step)⟩
                · rw [if_neg c28] at H
                  have c28b0 : decide (a0 ≤ 12292) = false := decide_eq_false c28
                  clear c28
                  by_cases c29 : a0 ≥ 12296
                  · rw [if_pos c29] at H
                    have c29b0 : decide (12296 ≤ a0) = true := decide_eq_true c29
                    clear c29
                    by_cases c30 : a0 ≤ 12320
                    · rw [if_pos c30] at H
                      have c30b0 : decide (a0 ≤ 12320) = true := decide_eq_true c30
                      clear c30
                      obtain rfl := Option.some.inj H
                      go_wp2
                      go_ret
                      exact ⟨by first | rfl | (simp; done) | (simp [*]; done), by repeat (first | exact Drawn0.refl _ | apply Drawn0.step)⟩
                    · rw [if_neg c30] at H
                      have c30b0 : decide (a0 ≤ 12320) = false := decide_eq_false c30
                      clear c30
                      obtain rfl := Option.some.inj H
                      go_wp2
                      go_ret
                      exact ⟨by first | rfl | (simp; done) | (simp [*]; done), by repeat (first | exact Drawn0.refl _ | apply Drawn0.step)⟩
                  · rw [if_neg c29] at H
                    have c29b0 : decide (12296 ≤ a0) = false := decide_eq_false c29
                    clear c29
                    obtain rfl := Option.some.inj H
                    go_wp2
                    go_ret
                    exact ⟨by first | rfl | (simp; done) | (simp [*]; done), by repeat (first | exact Drawn0.refl _ | apply Drawn0.step)⟩
              · rw [if_neg c27] at H
                have c27b0 : decide (12288 ≤ a0) = false := decide_eq_false c27
                clear c27
                by_cases c31 : a0 ≥ 12296
                · rw [if_pos c31] at H
                  have c31b0 : decide (12296 ≤ a0) = true := decide_eq_true c31
                  clear c31
                  by_cases c32 : a0 ≤ 12320
                  · rw [if_pos c32] at H
                    have c32b0 : decide (a0 ≤ 12320) = true := decide_eq_true c32
                    clear c32
                    obtain rfl := Option.some.inj H
                    go_wp2
                    go_ret
                    exact ⟨by first | rfl | (simp; done) | (simp [*]; done), by repeat (first | exact Drawn0.refl _ | apply Drawn0.step)⟩
                  · rw [if_neg c32] at H
                    have c32b0 : decide (a0 ≤ 12320) = false := decide_eq_false c32
                    clear c32
                    obtain rfl := Option.some.inj H
                    go_wp2
                    go_ret
                    exact ⟨by first | rfl | (simp; done) | (simp [*]; done), by repeat (first | exact Drawn0.refl _ | apply Drawn0.step)⟩
                · rw [if_neg c31] at H
                  have c31b0 : decide (12296 ≤ a0) = false := decide_eq_false c31
                  clear c31
                  obtain rfl := Option.some.inj H
                  go_wp2
                  go_ret
                  exact ⟨by first | rfl | (simp; done) | (simp [*]; done), by repeat (first | exact Drawn0.refl _ | apply Drawn0.step)⟩

end Go.Proofs.Ytkhhmjikohonfaa.PUtfLetters
