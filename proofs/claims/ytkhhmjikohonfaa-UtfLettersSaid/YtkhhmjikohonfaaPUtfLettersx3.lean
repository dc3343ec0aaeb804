-- Written by a program of this session for the claim (a changed use of the kit's printer; not the printer's own print).
import Derived.Test.YtkhhmjikohonfaaPUtfLettersx0
import Derived.Test.YtkhhmjikohonfaaPUtfLettersx1
import Derived.Test.YtkhhmjikohonfaaPUtfLettersx2
namespace Go.Proofs.Ytkhhmjikohonfaa.PUtfLetters
open Go.RowKit Go.Proofs.YtkhhmjikohonfaaW.PrintWords Go.Proofs.YtkhhmjikohonfaaW.PrintLast Go.Proofs.YtkhhmjikohonfaaW.PrintMore
attribute [local go_sem] max2_int min2_int max_two min_two max_three min_three max_four min_four   -- for this text's walks alone
set_option linter.unusedVariables false
set_option linter.unusedSimpArgs false

/-! ### catchwordlaw02_UtfLetters: function 5 -/
def catchwordlaw02_UtfLetters.j0 : Nat → Int → Bool → Bool → Option (Bool)
  | 0, _, _, _ => none
  | k + 1, x0, x3, x20 => if x20 = true then (some false) else (if x0 < 128 then (if x0 ≥ 48 then (if x0 ≤ 57 then (some (x3 == true)) else (if x0 ≥ 65 then (if x0 ≤ 90 then (some (x3 == true)) else (if x0 ≥ 97 then (some (x3 == (decide (x0 ≤ 122)))) else (some (x3 == false)))) else (if x0 ≥ 97 then (some (x3 == (decide (x0 ≤ 122)))) else (some (x3 == false))))) else (if x0 ≥ 65 then (if x0 ≤ 90 then (some (x3 == true)) else (if x0 ≥ 97 then (some (x3 == (decide (x0 ≤ 122)))) else (some (x3 == false)))) else (if x0 ≥ 97 then (some (x3 == (decide (x0 ≤ 122)))) else (some (x3 == false))))) else (if x0 < 192 then (if x0 = 170 then (some (x3 == true)) else (if x0 = 181 then (some (x3 == true)) else (some (x3 == (x0 == 186))))) else (if x0 = 215 then (some (x3 == false)) else (if x0 = 247 then (some (x3 == false)) else (if x0 ≥ 8192 then (if x0 ≤ 8303 then (some (x3 == false)) else (if x0 ≥ 12288 then (if x0 ≤ 12292 then (some (x3 == false)) else (if x0 ≥ 12296 then (if x0 ≤ 12320 then (some (x3 == false)) else (some (x3 == true))) else (some (x3 == true)))) else (if x0 ≥ 12296 then (if x0 ≤ 12320 then (some (x3 == false)) else (some (x3 == true))) else (some (x3 == true))))) else (if x0 ≥ 12288 then (if x0 ≤ 12292 then (some (x3 == false)) else (if x0 ≥ 12296 then (if x0 ≤ 12320 then (some (x3 == false)) else (some (x3 == true))) else (some (x3 == true)))) else (if x0 ≥ 12296 then (if x0 ≤ 12320 then (some (x3 == false)) else (some (x3 == true))) else (some (x3 == true)))))))))
def catchwordlaw02_UtfLetters.f (k : Nat) (a0 : Int) : Option (Bool) := (catchwordlaw02_head.f k).bind fun t103 => (if t103 = true then ((utf_Letter.f k a0).bind fun t104 => ((utf_Low.f k a0).bind fun t105 => ((utf_Letter.f k t105).bind fun t106 => (if (t104 != t106) = true then (catchwordlaw02_UtfLetters.j0 k a0 t104 true) else ((utf_Plain.f a0).bind fun t107 => ((utf_Letter.f k t107).bind fun t108 => (catchwordlaw02_UtfLetters.j0 k a0 t104 (t104 != t108)))))))) else (some false))
theorem catchwordlaw02_UtfLetters.mono_l : ∀ k, (∀ y0 y1 y2, LeO (catchwordlaw02_UtfLetters.j0 k y0 y1 y2) (catchwordlaw02_UtfLetters.j0 (k + 1) y0 y1 y2))
  | 0 => fun _ _ _ r h => by simp [catchwordlaw02_UtfLetters.j0] at h
  | k + 1 => by
    have ih0 := catchwordlaw02_UtfLetters.mono_l k
    · intro y0 y1 y2
      unfold catchwordlaw02_UtfLetters.j0
      repeat' first
      | (with_reducible exact ih0 _ _ _)
      | (with_reducible exact catchwordlaw02_head.mono _)
      | (with_reducible exact utf_Letter.mono _ _)
      | (with_reducible exact utf_Low.mono _ _)
      | (with_reducible exact LeO.refl _)
      | (with_reducible exact LeO.none _)
      | (with_reducible refine LeO.ite ?_ ?_)
      | (with_reducible refine LeO.bind ?_ (fun _ => ?_))
      | exact ih0 _ _ _
      | exact catchwordlaw02_head.mono _
      | exact utf_Letter.mono _ _
      | exact utf_Low.mono _ _
      | exact LeO.none _
      | refine LeO.ite ?_ ?_
      | refine LeO.bind ?_ (fun _ => ?_)
theorem catchwordlaw02_UtfLetters.mono : ∀ a0 k, LeO (catchwordlaw02_UtfLetters.f k a0) (catchwordlaw02_UtfLetters.f (k + 1) a0) := by
  intro a0 k
  have ih0 := catchwordlaw02_UtfLetters.mono_l k
  unfold catchwordlaw02_UtfLetters.f
  repeat' first
      | (with_reducible exact ih0 _ _ _)
      | (with_reducible exact catchwordlaw02_head.mono _)
      | (with_reducible exact utf_Letter.mono _ _)
      | (with_reducible exact utf_Low.mono _ _)
      | (with_reducible exact LeO.refl _)
      | (with_reducible exact LeO.none _)
      | (with_reducible refine LeO.ite ?_ ?_)
      | (with_reducible refine LeO.bind ?_ (fun _ => ?_))
      | exact ih0 _ _ _
      | exact catchwordlaw02_head.mono _
      | exact utf_Letter.mono _ _
      | exact utf_Low.mono _ _
      | exact LeO.none _
      | refine LeO.ite ?_ ?_
      | refine LeO.bind ?_ (fun _ => ?_)
set_option maxHeartbeats 8000000 in
set_option maxRecDepth 100000 in
theorem catchwordlaw02_UtfLetters.calls (k : Nat) (a0 : Int) (r : Bool) (w : World) (h : catchwordlaw02_UtfLetters.f k a0 = some r) :
    Calls Try.prog 5 #[.int .i32 a0] w fun e w' => e = .returned (.bool r) ∧ Drawn0 w w' := by
  have H : ((catchwordlaw02_head.f k).bind fun t103 => (if t103 = true then ((utf_Letter.f k a0).bind fun t104 => ((utf_Low.f k a0).bind fun t105 => ((utf_Letter.f k t105).bind fun t106 => (if (t104 != t106) = true then (catchwordlaw02_UtfLetters.j0 k a0 t104 true) else ((utf_Plain.f a0).bind fun t107 => ((utf_Letter.f k t107).bind fun t108 => (catchwordlaw02_UtfLetters.j0 k a0 t104 (t104 != t108)))))))) else (some false))) = some r := h
  clear h
  replace H := Option.bind_eq_some_iff.mp H
  obtain ⟨t103, A20, H⟩ := H
  replace H : (if t103 = true then ((utf_Letter.f k a0).bind fun t104 => ((utf_Low.f k a0).bind fun t105 => ((utf_Letter.f k t105).bind fun t106 => (if (t104 != t106) = true then (catchwordlaw02_UtfLetters.j0 k a0 t104 true) else ((utf_Plain.f a0).bind fun t107 => ((utf_Letter.f k t107).bind fun t108 => (catchwordlaw02_UtfLetters.j0 k a0 t104 (t104 != t108)))))))) else (some false)) = some r := H
  have A2 := Aside0.mk A20
  clear A20
  by_cases c3 : t103 = true
  · subst c3
    have H1 : ((utf_Letter.f k a0).bind fun t104 => ((utf_Low.f k a0).bind fun t105 => ((utf_Letter.f k t105).bind fun t106 => (if (t104 != t106) = true then (catchwordlaw02_UtfLetters.j0 k a0 t104 true) else ((utf_Plain.f a0).bind fun t107 => ((utf_Letter.f k t107).bind fun t108 => (catchwordlaw02_UtfLetters.j0 k a0 t104 (t104 != t108)))))))) = some r := by rw [if_pos rfl] at H; exact H
    clear H
    have H := H1
    clear H1
    replace H := Option.bind_eq_some_iff.mp H
    obtain ⟨t104, A40, H⟩ := H
    replace H : ((utf_Low.f k a0).bind fun t105 => ((utf_Letter.f k t105).bind fun t106 => (if (t104 != t106) = true then (catchwordlaw02_UtfLetters.j0 k a0 t104 true) else ((utf_Plain.f a0).bind fun t107 => ((utf_Letter.f k t107).bind fun t108 => (catchwordlaw02_UtfLetters.j0 k a0 t104 (t104 != t108))))))) = some r := H
    have A4 := Aside0.mk A40
    clear A40
    have HC5 := Aside0.mk H
    clear H
    go_enter Try.func5, Try.ntmps5
    go_upto_region 4 with (first | ((with_reducible refine gate_callee (f := 11) rfl ?_); refine goesL_ (some 5) rfl rfl Try.func11 (by kernel_rfl) rfl #[] rfl (by (try simp only [List.map_toArray, List.map_cons, List.map_nil]); first | done | rfl | (simp only [List.length_drop, List.length_take]; rfl)) ?_; (with_reducible refine (catchwordlaw02_head.calls k  true _ A2.out).mono ?_); rintro e w' ⟨rfl, ⟨nd, rfl⟩⟩; refine ⟨_, rfl, ?_⟩) | ((with_reducible refine gate_callee (f := 14) rfl ?_); refine goesL_ (some 8) rfl rfl Try.func14 (by kernel_rfl) rfl #[.int .i32 a0] rfl (by (try simp only [List.map_toArray, List.map_cons, List.map_nil]); first | done | rfl | (simp only [List.length_drop, List.length_take]; rfl)) ?_; (with_reducible refine (utf_Letter.calls k a0 t104 _ A4.out).mono ?_); rintro e w' ⟨rfl, ⟨nd, rfl⟩⟩; refine ⟨_, rfl, ?_⟩))
    (try simp only [Act.put, List.setIfInBounds_toArray, List.set_cons_zero, List.set_cons_succ])
    go_cut [20] (fun v20 wc => ∃ (kq : Nat) (x20_4 : Bool), v20 = .bool x20_4 ∧ Aside0 (catchwordlaw02_UtfLetters.j0 kq a0 t104 x20_4 = some r) ∧ Aside0 (kq ≤ k) ∧ Drawn0 w wc)
    case first =>
      have H := HC5.out
      clear HC5
      replace H := Option.bind_eq_some_iff.mp H
      obtain ⟨t105, A60, H⟩ := H
      replace H : ((utf_Letter.f k t105).bind fun t106 => (if (t104 != t106) = true then (catchwordlaw02_UtfLetters.j0 k a0 t104 true) else ((utf_Plain.f a0).bind fun t107 => ((utf_Letter.f k t107).bind fun t108 => (catchwordlaw02_UtfLetters.j0 k a0 t104 (t104 != t108)))))) = some r := H
      have A6 := Aside0.mk A60
      clear A60
      replace H := Option.bind_eq_some_iff.mp H
      obtain ⟨t106, A70, H⟩ := H
      replace H : (if (t104 != t106) = true then (catchwordlaw02_UtfLetters.j0 k a0 t104 true) else ((utf_Plain.f a0).bind fun t107 => ((utf_Letter.f k t107).bind fun t108 => (catchwordlaw02_UtfLetters.j0 k a0 t104 (t104 != t108))))) = some r := H
      have A7 := Aside0.mk A70
      clear A70
      by_cases c8 : (t104 != t106) = true
      · rw [if_pos c8] at H
        have c8b0 : (t104 != t106) = true := c8
        (try (have c8b1 : decide (t104 = t106) = false := by simpa using c8))
        (try (have c8b2 : (t104 == t106) = false := by simpa using c8))
        (try (have c8b3 : ¬ (t104 = t106) := by simpa using c8))
        clear c8
        (first | rw [c8b0] | (simp only [i64_w, i32_w]; rw [c8b0]) | skip)
        have H' := Aside0.mk H
        clear H
        go_wp2_with (first | ((with_reducible refine gate_callee (f := 12) rfl ?_); refine goesL_ (some 11) rfl rfl Try.func12 (by kernel_rfl) rfl #[.int .i32 a0] rfl (by (try simp only [List.map_toArray, List.map_cons, List.map_nil]); first | done | rfl | (simp only [List.length_drop, List.length_take]; rfl)) ?_; (with_reducible refine (utf_Low.calls k a0 t105 _ A6.out).mono ?_); rintro e w' ⟨rfl, ⟨nd, rfl⟩⟩; refine ⟨_, rfl, ?_⟩) | ((with_reducible refine gate_callee (f := 14) rfl ?_); refine goesL_ (some 12) rfl rfl Try.func14 (by kernel_rfl) rfl #[.int .i32 t105] rfl (by (try simp only [List.map_toArray, List.map_cons, List.map_nil]); first | done | rfl | (simp only [List.length_drop, List.length_take]; rfl)) ?_; (with_reducible refine (utf_Letter.calls k t105 t106 _ A7.out).mono ?_); rintro e w' ⟨rfl, ⟨nd, rfl⟩⟩; refine ⟨_, rfl, ?_⟩))
        go_meet
        case rel => exact ⟨_, (true), (by first | rfl | (simp; done) | (simp [*]; done)), H', ⟨by first | omega | exact Nat.le_refl _⟩, by repeat (first | exact Drawn0.refl _ | apply Drawn0.step)⟩
      · rw [if_neg c8] at H
        have c8b0 : (t104 != t106) = false := by simpa using c8
        (try (have c8b1 : decide (t104 = t106) = true := by simpa using c8))
        (try (have c8b2 : (t104 == t106) = true := by simpa using c8))
        clear c8
        (first | rw [c8b0] | (simp only [i64_w, i32_w]; rw [c8b0]) | skip)
        replace H := Option.bind_eq_some_iff.mp H
        obtain ⟨t107, A90, H⟩ := H
        replace H : ((utf_Letter.f k t107).bind fun t108 => (catchwordlaw02_UtfLetters.j0 k a0 t104 (t104 != t108))) = some r := H
        have A9 := Aside0.mk A90
        clear A90
        replace H := Option.bind_eq_some_iff.mp H
        obtain ⟨t108, A100, H⟩ := H
        replace H : (catchwordlaw02_UtfLetters.j0 k a0 t104 (t104 != t108)) = some r := H
        have A10 := Aside0.mk A100
        clear A100
        have H' := Aside0.mk H
        clear H
        go_wp2_with (first | ((with_reducible refine gate_callee (f := 12) rfl ?_); refine goesL_ (some 11) rfl rfl Try.func12 (by kernel_rfl) rfl #[.int .i32 a0] rfl (by (try simp only [List.map_toArray, List.map_cons, List.map_nil]); first | done | rfl | (simp only [List.length_drop, List.length_take]; rfl)) ?_; (with_reducible refine (utf_Low.calls k a0 t105 _ A6.out).mono ?_); rintro e w' ⟨rfl, ⟨nd, rfl⟩⟩; refine ⟨_, rfl, ?_⟩) | ((with_reducible refine gate_callee (f := 14) rfl ?_); refine goesL_ (some 12) rfl rfl Try.func14 (by kernel_rfl) rfl #[.int .i32 t105] rfl (by (try simp only [List.map_toArray, List.map_cons, List.map_nil]); first | done | rfl | (simp only [List.length_drop, List.length_take]; rfl)) ?_; (with_reducible refine (utf_Letter.calls k t105 t106 _ A7.out).mono ?_); rintro e w' ⟨rfl, ⟨nd, rfl⟩⟩; refine ⟨_, rfl, ?_⟩) | (go_at_call 13; (with_reducible refine (utf_Plain.calls a0 t107 _ A9.out).mono ?_); rintro e w' ⟨rfl, ⟨nd, rfl⟩⟩) | (go_at_call 14; (with_reducible refine (utf_Letter.calls k t107 t108 _ A10.out).mono ?_); rintro e w' ⟨rfl, ⟨nd, rfl⟩⟩))
        go_meet
        case rel => exact ⟨_, ((t104 != t108)), (by first | rfl | (simp; done) | (simp [*]; done)), H', ⟨by first | omega | exact Nat.le_refl _⟩, by repeat (first | exact Drawn0.refl _ | apply Drawn0.step)⟩
    case rest =>
      clear HC5
      try clear c1
      try clear p2
      try clear c3
      try clear c5
      try clear c8
      try clear c8b0
      try clear c8b1
      try clear c8b2
      obtain ⟨kq, x20_4, rfl, HA, HJ4, ⟨mc4, rfl⟩⟩ := hcut
      cases kq with
      | zero => exact absurd HA.out (by simp [catchwordlaw02_UtfLetters.j0])
      | succ kj4 =>
        have H := HA.out
        clear HA
        simp only [catchwordlaw02_UtfLetters.j0] at H
        by_cases c11 : x20_4 = true
        · subst c11
          have H1 : (some false) = some r := by rw [if_pos rfl] at H; exact H
          clear H
          have H := H1
          clear H1
          obtain rfl := Option.some.inj H
          go_wp2
          go_ret
          exact ⟨by first | rfl | (simp; done) | (simp [*]; done), by repeat (first | exact Drawn0.refl _ | apply Drawn0.step)⟩
        · replace c11 := Bool.eq_false_iff.mpr c11
          subst c11
          have H1 : (if a0 < 128 then (if a0 ≥ 48 then (if a0 ≤ 57 then (some (t104 == true)) else (if a0 ≥ 65 then (if a0 ≤ 90 then (some (t104 == true)) else (if a0 ≥ 97 then (some (t104 == (decide (a0 ≤ 122)))) else (some (t104 == false)))) else (if a0 ≥ 97 then (some (t104 == (decide (a0 ≤ 122)))) else (some (t104 == false))))) else (if a0 ≥ 65 then (if a0 ≤ 90 then (some (t104 == true)) else (if a0 ≥ 97 then (some (t104 == (decide (a0 ≤ 122)))) else (some (t104 == false)))) else (if a0 ≥ 97 then (some (t104 == (decide (a0 ≤ 122)))) else (some (t104 == false))))) else (if a0 < 192 then (if a0 = 170 then (some (t104 == true)) else (if a0 = 181 then (some (t104 == true)) else (some (t104 == (a0 == 186))))) else (if a0 = 215 then (some (t104 == false)) else (if a0 = 247 then (some (t104 == false)) else (if a0 ≥ 8192 then (if a0 ≤ 8303 then (some (t104 == false)) else (if a0 ≥ 12288 then (if a0 ≤ 12292 then (some (t104 == false)) else (if a0 ≥ 12296 then (if a0 ≤ 12320 then (some (t104 == false)) else (some (t104 == true))) else (some (t104 == true)))) else (if a0 ≥ 12296 then (if a0 ≤ 12320 then (some (t104 == false)) else (some (t104 == true))) else (some (t104 == true))))) else (if a0 ≥ 12288 then (if a0 ≤ 12292 then (some (t104 == false)) else (if a0 ≥ 12296 then (if a0 ≤ 12320 then (some (t104 == false)) else (some (t104 == true))) else (some (t104 == true)))) else (if a0 ≥ 12296 then (if a0 ≤ 12320 then (some (t104 == false)) else (some (t104 == true))) else (some (t104 == true))))))))) = some r := by rw [if_neg (show ¬ (false = true) by decide)] at H; exact H
          clear H
          have H := H1
          clear H1
          by_cases c12 : a0 < 128
          · rw [if_pos c12] at H
            have c12b0 : decide (a0 < 128) = true := decide_eq_true c12
            clear c12
            by_cases c13 : a0 ≥ 48
            · rw [if_pos c13] at H
              have c13b0 : decide (48 ≤ a0) = true := decide_eq_true c13
              clear c13
              by_cases c14 : a0 ≤ 57
              · rw [if_pos c14] at H
                have c14b0 : decide (a0 ≤ 57) = true := decide_eq_true c14
                clear c14
                obtain rfl := Option.some.inj H
                go_wp2
                go_ret
                exact ⟨by first | rfl | (simp; done) | (simp [*]; done), by repeat (first | exact Drawn0.refl _ | apply Drawn0.step)⟩
              · rw [if_neg c14] at H
                have c14b0 : decide (a0 ≤ 57) = false := decide_eq_false c14
                clear c14
                by_cases c15 : a0 ≥ 65
                · rw [if_pos c15] at H
                  have c15b0 : decide (65 ≤ a0) = true := decide_eq_true c15
                  clear c15
                  by_cases c16 : a0 ≤ 90
                  · rw [if_pos c16] at H
                    have c16b0 : decide (a0 ≤ 90) = true := decide_eq_true c16
                    clear c16
                    obtain rfl := Option.some.inj H
                    go_wp2
                    go_ret
                    exact ⟨by first | rfl | (simp; done) | (simp [*]; done), by repeat (first | exact Drawn0.refl _ | apply Drawn0.step)⟩
                  · rw [if_neg c16] at H
                    have c16b0 : decide (a0 ≤ 90) = false := decide_eq_false c16
                    clear c16
                    by_cases c17 : a0 ≥ 97
                    · rw [if_pos c17] at H
                      have c17b0 : decide (97 ≤ a0) = true := decide_eq_true c17
                      clear c17
                      obtain rfl := Option.some.inj H
                      go_wp2
                      go_ret
                      exact ⟨by first | rfl | (simp; done) | (simp [*]; done), by repeat (first | exact Drawn0.refl _ | apply Drawn0.step)⟩
                    · rw [if_neg c17] at H
                      have c17b0 : decide (97 ≤ a0) = false := decide_eq_false c17
                      clear c17
                      obtain rfl := Option.some.inj H
                      go_wp2
                      go_ret
                      exact ⟨by first | rfl | (simp; done) | (simp [*]; done), by repeat (first | exact Drawn0.refl _ | apply Drawn0.step)⟩
                · rw [if_neg c15] at H
                  have c15b0 : decide (65 ≤ a0) = false := decide_eq_false c15
                  clear c15
                  by_cases c18 : a0 ≥ 97
                  · rw [if_pos c18] at H
                    have c18b0 : decide (97 ≤ a0) = true := decide_eq_true c18
                    clear c18
                    obtain rfl := Option.some.inj H
                    go_wp2
                    go_ret
                    exact ⟨by first | rfl | (simp; done) | (simp [*]; done), by repeat (first | exact Drawn0.refl _ | apply Drawn0.step)⟩
                  · rw [if_neg c18] at H
                    have c18b0 : decide (97 ≤ a0) = false := decide_eq_false c18
                    clear c18
                    obtain rfl := Option.some.inj H
                    go_wp2
                    go_ret
                    exact ⟨by first | rfl | (simp; done) | (simp [*]; done), by repeat (first | exact Drawn0.refl _ | apply Drawn0.step)⟩
            · rw [if_neg c13] at H
              have c13b0 : decide (48 ≤ a0) = false := decide_eq_false c13
              clear c13
              by_cases c19 : a0 ≥ 65
              · rw [if_pos c19] at H
                have c19b0 : decide (65 ≤ a0) = true := decide_eq_true c19
                clear c19
                by_cases c20 : a0 ≤ 90
                · rw [if_pos c20] at H
                  have c20b0 : decide (a0 ≤ 90) = true := decide_eq_true c20
                  clear c20
                  obtain rfl := Option.some.inj H
                  go_wp2
                  go_ret
                  exact ⟨by first | rfl | (simp; done) | (simp [*]; done), by repeat (first | exact Drawn0.refl _ | apply Drawn0.step)⟩
                · rw [if_neg c20] at H
                  have c20b0 : decide (a0 ≤ 90) = false := decide_eq_false c20
                  clear c20
                  by_cases c21 : a0 ≥ 97
                  · rw [if_pos c21] at H
                    have c21b0 : decide (97 ≤ a0) = true := decide_eq_true c21
                    clear c21
                    obtain rfl := Option.some.inj H
                    go_wp2
                    go_ret
                    exact ⟨by first | rfl | (simp; done) | (simp [*]; done), by repeat (first | exact Drawn0.refl _ | apply Drawn0.step)⟩
                  · rw [if_neg c21] at H
                    have c21b0 : decide (97 ≤ a0) = false := decide_eq_false c21
                    clear c21
                    obtain rfl := Option.some.inj H
                    go_wp2
                    go_ret
                    exact ⟨by first | rfl | (simp; done) | (simp [*]; done), by repeat (first | exact Drawn0.refl _ | apply Drawn0.step)⟩
              · rw [if_neg c19] at H
                have c19b0 : decide (65 ≤ a0) = false := decide_eq_false c19
                clear c19
                by_cases c22 : a0 ≥ 97
                · rw [if_pos c22] at H
                  have c22b0 : decide (97 ≤ a0) = true := decide_eq_true c22
                  clear c22
                  obtain rfl := Option.some.inj H
                  go_wp2
                  go_ret
                  exact ⟨by first | rfl | (simp; done) | (simp [*]; done), by repeat (first | exact Drawn0.refl _ | apply Drawn0.step)⟩
                · rw [if_neg c22] at H
                  have c22b0 : decide (97 ≤ a0) = false := decide_eq_false c22
                  clear c22
                  obtain rfl := Option.some.inj H
                  go_wp2
                  go_ret
                  exact ⟨by first | rfl | (simp; done) | (simp [*]; done), by repeat (first | exact Drawn0.refl _ | apply Drawn0.step)⟩
          · rw [if_neg c12] at H
            have c12b0 : decide (a0 < 128) = false := decide_eq_false c12
            clear c12
            by_cases c23 : a0 < 192
            · rw [if_pos c23] at H
              have c23b0 : decide (a0 < 192) = true := decide_eq_true c23
              clear c23
              by_cases c24 : a0 = 170
              · rw [if_pos c24] at H
                have c24b0 : (a0 == 170) = true := beq_iff_eq.mpr c24
                have c24b1 : (a0 != 170) = false := bne_eq_false_iff_eq.mpr c24
                clear c24
                obtain rfl := Option.some.inj H
                go_wp2
                go_ret
                exact ⟨by first | rfl | (simp; done) | (simp [*]; done), by repeat (first | exact Drawn0.refl _ | apply Drawn0.step)⟩
              · rw [if_neg c24] at H
                have c24b0 : (a0 == 170) = false := beq_eq_false_iff_ne.mpr c24
                have c24b1 : (a0 != 170) = true := bne_iff_ne.mpr c24
                by_cases c25 : a0 = 181
                · rw [if_pos c25] at H
                  have c25b0 : (a0 == 181) = true := beq_iff_eq.mpr c25
                  have c25b1 : (a0 != 181) = false := bne_eq_false_iff_eq.mpr c25
                  clear c25
                  obtain rfl := Option.some.inj H
                  go_wp2
                  go_ret
                  exact ⟨by first | rfl | (simp; done) | (simp [*]; done), by repeat (first | exact Drawn0.refl _ | apply Drawn0.step)⟩
                · rw [if_neg c25] at H
                  have c25b0 : (a0 == 181) = false := beq_eq_false_iff_ne.mpr c25
                  have c25b1 : (a0 != 181) = true := bne_iff_ne.mpr c25
                  obtain rfl := Option.some.inj H
                  go_wp2
                  go_ret
                  exact ⟨by first | rfl | (simp; done) | (simp [*]; done), by repeat (first | exact Drawn0.refl _ | apply Drawn0.step)⟩
            · rw [if_neg c23] at H
              have c23b0 : decide (a0 < 192) = false := decide_eq_false c23
              clear c23
              by_cases c26 : a0 = 215
              · rw [if_pos c26] at H
                have c26b0 : (a0 == 215) = true := beq_iff_eq.mpr c26
                have c26b1 : (a0 != 215) = false := bne_eq_false_iff_eq.mpr c26
                clear c26
                obtain rfl := Option.some.inj H
                go_wp2
                go_ret
                exact ⟨by first | rfl | (simp; done) | (simp [*]; done), by repeat (first | exact Drawn0.refl _ | apply Drawn0.step)⟩
              · rw [if_neg c26] at H
                have c26b0 : (a0 == 215) = false := beq_eq_false_iff_ne.mpr c26
                have c26b1 : (a0 != 215) = true := bne_iff_ne.mpr c26
                by_cases c27 : a0 = 247
                · rw [if_pos c27] at H
                  have c27b0 : (a0 == 247) = true := beq_iff_eq.mpr c27
                  have c27b1 : (a0 != 247) = false := bne_eq_false_iff_eq.mpr c27
                  clear c27
                  obtain rfl := Option.some.inj H
                  go_wp2
                  go_ret
                  exact ⟨by first | rfl | (simp; done) | (simp [*]; done), by repeat (first | exact Drawn0.refl _ | apply Drawn0.step)⟩
                · rw [if_neg c27] at H
                  have c27b0 : (a0 == 247) = false := beq_eq_false_iff_ne.mpr c27
                  have c27b1 : (a0 != 247) = true := bne_iff_ne.mpr c27
                  by_cases c28 : a0 ≥ 8192
                  · rw [if_pos c28] at H
                    have c28b0 : decide (8192 ≤ a0) = true := decide_eq_true c28
                    clear c28
                    by_cases c29 : a0 ≤ 8303
                    · rw [if_pos c29] at H
                      have c29b0 : decide (a0 ≤ 8303) = true := decide_eq_true c29
                      clear c29
                      obtain rfl := Option.some.inj H
                      go_wp2
                      go_ret
                      exact ⟨by first | rfl | (simp; done) | (simp [*]; done), by repeat (first | exact Drawn0.refl _ | apply Drawn0.step)⟩
                    · rw [if_neg c29] at H
                      have c29b0 : decide (a0 ≤ 8303) = false := decide_eq_false c29
                      clear c29
                      by_cases c30 : a0 ≥ 12288
                      · rw [if_pos c30] at H
                        have c30b0 : decide (12288 ≤ a0) = true := decide_eq_true c30
                        clear c30
                        by_cases c31 : a0 ≤ 12292
                        · rw [if_pos c31] at H
                          have c31b0 : decide (a0 ≤ 12292) = true := decide_eq_true c31
                          clear c31
                          obtain rfl := Option.some.inj H
                          go_wp2
                          go_ret
                          exact ⟨by first | rfl | (simp; done) | (simp [*]; done), by repeat (first | exact Drawn0.refl _ | apply Drawn0.step)⟩
                        · rw [if_neg c31] at H
                          have c31b0 : decide (a0 ≤ 12292) = false := decide_eq_false c31
                          clear c31
                          by_cases c32 : a0 ≥ 12296
                          · rw [if_pos c32] at H
                            have c32b0 : decide (12296 ≤ a0) = true := decide_eq_true c32
                            clear c32
                            by_cases c33 : a0 ≤ 12320
                            · rw [if_pos c33] at H
                              have c33b0 : decide (a0 ≤ 12320) = true := decide_eq_true c33
                              clear c33
                              obtain rfl := Option.some.inj H
                              go_wp2
                              go_ret
                              exact ⟨by first | rfl | (simp; done) | (simp [*]; done), by repeat (first | exact Drawn0.refl _ | apply Drawn0.step)⟩
                            · rw [if_neg c33] at H
                              have c33b0 : decide (a0 ≤ 12320) = false := decide_eq_false c33
                              clear c33
                              obtain rfl := Option.some.inj H
                              go_wp2
                              go_ret
                              exact ⟨by first | rfl | (simp; done) | (simp [*]; done), by repeat (first | exact Drawn0.refl _ | apply Drawn0.step)⟩
                          · rw [if_neg c32] at H
                            have c32b0 : decide (12296 ≤ a0) = false := decide_eq_false c32
                            clear c32
                            obtain rfl := Option.some.inj H
                            go_wp2
                            go_ret
                            exact ⟨by first | rfl | (simp; done) | (simp [*]; done), by repeat (first | exact Drawn0.refl _ | apply Drawn0.step)⟩
                      · rw [if_neg c30] at H
                        have c30b0 : decide (12288 ≤ a0) = false := decide_eq_false c30
                        clear c30
                        by_cases c34 : a0 ≥ 12296
                        · rw [if_pos c34] at H
                          have c34b0 : decide (12296 ≤ a0) = true := decide_eq_true c34
                          clear c34
                          by_cases c35 : a0 ≤ 12320
                          · rw [if_pos c35] at H
                            have c35b0 : decide (a0 ≤ 12320) = true := decide_eq_true c35
                            clear c35
                            obtain rfl := Option.some.inj H
                            go_wp2
                            go_ret
                            exact ⟨by first | rfl | (simp; done) | (simp [*]; done), by repeat (first | exact Drawn0.refl _ | apply Drawn0.step)⟩
                          · rw [if_neg c35] at H
                            have c35b0 : decide (a0 ≤ 12320) = false := decide_eq_false c35
                            clear c35
                            obtain rfl := Option.some.inj H
                            go_wp2
                            go_ret
                            exact ⟨by first | rfl | (simp; done) | (simp [*]; done), by repeat (first | exact Drawn0.refl _ | apply Drawn0.step)⟩
                        · rw [if_neg c34] at H
                          have c34b0 : decide (12296 ≤ a0) = false := decide_eq_false c34
                          clear c34
                          obtain rfl := Option.some.inj H
                          go_wp2
                          go_ret
                          exact ⟨by first | rfl | (simp; done) | (simp [*]; done), by repeat (first | exact Drawn0.refl _ | apply Drawn0.step)⟩
                  · rw [if_neg c28] at H
                    have c28b0 : decide (8192 ≤ a0) = false := decide_eq_false c28
                    clear c28
                    by_cases c36 : a0 ≥ 12288
                    · rw [if_pos c36] at H
                      have c36b0 : decide (12288 ≤ a0) = true := decide_eq_true c36
                      clear c36
                      by_cases c37 : a0 ≤ 12292
                      · rw [if_pos c37] at H
                        have c37b0 : decide (a0 ≤ 12292) = true := decide_eq_true c37
                        clear c37
                        obtain rfl := Option.some.inj H
                        go_wp2
                        go_ret
                        exact ⟨by first | rfl | (simp; done) | (simp [*]; done), by repeat (first | exact Drawn0.refl _ | apply Drawn0.step)⟩
                      · rw [if_neg c37] at H
                        have c37b0 : decide (a0 ≤ 12292) = false := decide_eq_false c37
                        clear c37
                        by_cases c38 : a0 ≥ 12296
                        · rw [if_pos c38] at H
                          have c38b0 : decide (12296 ≤ a0) = true := decide_eq_true c38
                          clear c38
                          by_cases c39 : a0 ≤ 12320
                          · rw [if_pos c39] at H
                            have c39b0 : decide (a0 ≤ 12320) = true := decide_eq_true c39
                            clear c39
                            obtain rfl := Option.some.inj H
                            go_wp2
                            go_ret
                            exact ⟨by first | rfl | (simp; done) | (simp [*]; done), by repeat (first | exact Drawn0.refl _ | apply Drawn0.step)⟩
                          · rw [if_neg c39] at H
                            have c39b0 : decide (a0 ≤ 12320) = false := decide_eq_false c39
                            clear c39
                            obtain rfl := Option.some.inj H
                            go_wp2
                            go_ret
                            exact ⟨by first | rfl | (simp; done) | (simp [*]; done), by repeat (first | exact Drawn0.refl _ | apply Drawn0.step)⟩
                        · rw [if_neg c38] at H
                          have c38b0 : decide (12296 ≤ a0) = false := decide_eq_false c38
                          clear c38
                          obtain rfl := Option.some.inj H
                          go_wp2
                          go_ret
                          exact ⟨by first | rfl | (simp; done) | (simp [*]; done), by repeat (first | exact Drawn0.refl _ | apply Drawn0.step)⟩
                    · rw [if_neg c36] at H
                      have c36b0 : decide (12288 ≤ a0) = false := decide_eq_false c36
                      clear c36
                      by_cases c40 : a0 ≥ 12296
                      · rw [if_pos c40] at H
                        have c40b0 : decide (12296 ≤ a0) = true := decide_eq_true c40
                        clear c40
                        by_cases c41 : a0 ≤ 12320
                        · rw [if_pos c41] at H
                          have c41b0 : decide (a0 ≤ 12320) = true := decide_eq_true c41
                          clear c41
                          obtain rfl := Option.some.inj H
                          go_wp2
                          go_ret
                          exact ⟨by first | rfl | (simp; done) | (simp [*]; done), by repeat (first | exact Drawn0.refl _ | apply Drawn0.step)⟩
                        · rw [if_neg c41] at H
                          have c41b0 : decide (a0 ≤ 12320) = false := decide_eq_false c41
                          clear c41
                          obtain rfl := Option.some.inj H
                          go_wp2
                          go_ret
                          exact ⟨by first | rfl | (simp; done) | (simp [*]; done), by repeat (first | exact Drawn0.refl _ | apply Drawn0.step)⟩
                      · rw [if_neg c40] at H
                        have c40b0 : decide (12296 ≤ a0) = false := decide_eq_false c40
                        clear c40
                        obtain rfl := Option.some.inj H
                        go_wp2
                        go_ret
                        exact ⟨by first | rfl | (simp; done) | (simp [*]; done), by repeat (first | exact Drawn0.refl _ | apply Drawn0.step)⟩
  · replace c3 := Bool.eq_false_iff.mpr c3
    subst c3
    have H1 : (some false) = some r := by rw [if_neg (show ¬ (false = true) by decide)] at H; exact H
    clear H
    have H := H1
    clear H1
    obtain rfl := Option.some.inj H
    go_enter Try.func5, Try.ntmps5
    go_wp2_with (first | ((with_reducible refine gate_callee (f := 11) rfl ?_); refine goesL_ (some 5) rfl rfl Try.func11 (by kernel_rfl) rfl #[] rfl (by (try simp only [List.map_toArray, List.map_cons, List.map_nil]); first | done | rfl | (simp only [List.length_drop, List.length_take]; rfl)) ?_; (with_reducible refine (catchwordlaw02_head.calls k  false _ A2.out).mono ?_); rintro e w' ⟨rfl, ⟨nd, rfl⟩⟩; refine ⟨_, rfl, ?_⟩))
    go_ret
    exact ⟨by first | rfl | (simp; done) | (simp [*]; done), by repeat (first | exact Drawn0.refl _ | apply Drawn0.step)⟩

/-- THE ONE PURE STATEMENT of catchwordlaw02_UtfLetters: yours. -/
def catchwordlaw02_UtfLetters.Pure : Prop := ∀ (a0 : Int), (Lit.int .i32 a0).wf = true → ∃ k, catchwordlaw02_UtfLetters.f k a0 = some true
theorem catchwordlaw02_UtfLetters.walk (P : catchwordlaw02_UtfLetters.Pure) (a0 : Int) (w : World) (w0 : (Lit.int .i32 a0).wf = true) :
    Calls Try.prog 5 #[.int .i32 a0] w fun e w' => e = .returned (.bool true) ∧ Below w.heap.size w w' := by
  obtain ⟨k, h⟩ := P a0 w0
  refine (catchwordlaw02_UtfLetters.calls k a0 true w h).mono ?_
  rintro e w' ⟨rfl, hd⟩
  exact ⟨rfl, hd.below⟩

end Go.Proofs.Ytkhhmjikohonfaa.PUtfLetters
