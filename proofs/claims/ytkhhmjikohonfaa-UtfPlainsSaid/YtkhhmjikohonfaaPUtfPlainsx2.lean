-- Written by a program of this session for the claim (a changed use of the kit's printer; not the printer's own print).
import Derived.Test.YtkhhmjikohonfaaPUtfPlainsx0
import Derived.Test.YtkhhmjikohonfaaPUtfPlainsx1
namespace Go.Proofs.Ytkhhmjikohonfaa.PUtfPlains
open Go.RowKit Go.Proofs.YtkhhmjikohonfaaW.PrintWords Go.Proofs.YtkhhmjikohonfaaW.PrintLast Go.Proofs.YtkhhmjikohonfaaW.PrintMore
attribute [local go_sem] max2_int min2_int max_two min_two max_three min_three max_four min_four   -- for this text's walks alone
set_option linter.unusedVariables false
set_option linter.unusedSimpArgs false

/-! ### catchwordlaw02_UtfPlains: function 4 -/
def catchwordlaw02_UtfPlains.j0 : Nat → Int → Int → Bool → Option (Bool)
  | 0, _, _, _ => none
  | k + 1, x0, x3, x4 => if x0 ≥ 192 then (if x0 ≤ 383 then (if x4 = true then ((utf_Plain.f x3).bind fun t106 => (if t106 = x3 then ((utf_Low.f k x3).bind fun t107 => ((utf_Low.f k x0).bind fun t108 => ((utf_Plain.f t108).bind fun t109 => (some (t107 == t109))))) else (some false))) else (if x3 ≥ 97 then (if x3 ≤ 122 then ((utf_Plain.f x3).bind fun t110 => (if t110 = x3 then ((utf_Low.f k x3).bind fun t111 => ((utf_Low.f k x0).bind fun t112 => ((utf_Plain.f t112).bind fun t113 => (some (t111 == t113))))) else (some false))) else (some false)) else (some false))) else (some false)) else (some false)
def catchwordlaw02_UtfPlains.f (k : Nat) (a0 : Int) : Option (Bool) := (catchwordlaw02_head.f k).bind fun t103 => (if t103 = true then ((utf_Plain.f a0).bind fun t104 => (if t104 = a0 then ((utf_Plain.f t104).bind fun t105 => (some (t105 == t104))) else (if t104 ≥ 65 then (catchwordlaw02_UtfPlains.j0 k a0 t104 (decide (t104 ≤ 90))) else (catchwordlaw02_UtfPlains.j0 k a0 t104 false)))) else (some false))
theorem catchwordlaw02_UtfPlains.mono_l : ∀ k, (∀ y0 y1 y2, LeO (catchwordlaw02_UtfPlains.j0 k y0 y1 y2) (catchwordlaw02_UtfPlains.j0 (k + 1) y0 y1 y2))
  | 0 => fun _ _ _ r h => by simp [catchwordlaw02_UtfPlains.j0] at h
  | k + 1 => by
    have ih0 := catchwordlaw02_UtfPlains.mono_l k
    · intro y0 y1 y2
      unfold catchwordlaw02_UtfPlains.j0
      repeat' first
      | (with_reducible exact ih0 _ _ _)
      | (with_reducible exact catchwordlaw02_head.mono _)
      | (with_reducible exact utf_Low.mono _ _)
      | (with_reducible exact LeO.refl _)
      | (with_reducible exact LeO.none _)
      | (with_reducible refine LeO.ite ?_ ?_)
      | (with_reducible refine LeO.bind ?_ (fun _ => ?_))
      | exact ih0 _ _ _
      | exact catchwordlaw02_head.mono _
      | exact utf_Low.mono _ _
      | exact LeO.none _
      | refine LeO.ite ?_ ?_
      | refine LeO.bind ?_ (fun _ => ?_)
theorem catchwordlaw02_UtfPlains.mono : ∀ a0 k, LeO (catchwordlaw02_UtfPlains.f k a0) (catchwordlaw02_UtfPlains.f (k + 1) a0) := by
  intro a0 k
  have ih0 := catchwordlaw02_UtfPlains.mono_l k
  unfold catchwordlaw02_UtfPlains.f
  repeat' first
      | (with_reducible exact ih0 _ _ _)
      | (with_reducible exact catchwordlaw02_head.mono _)
      | (with_reducible exact utf_Low.mono _ _)
      | (with_reducible exact LeO.refl _)
      | (with_reducible exact LeO.none _)
      | (with_reducible refine LeO.ite ?_ ?_)
      | (with_reducible refine LeO.bind ?_ (fun _ => ?_))
      | exact ih0 _ _ _
      | exact catchwordlaw02_head.mono _
      | exact utf_Low.mono _ _
      | exact LeO.none _
      | refine LeO.ite ?_ ?_
      | refine LeO.bind ?_ (fun _ => ?_)
set_option maxHeartbeats 8000000 in
set_option maxRecDepth 100000 in
theorem catchwordlaw02_UtfPlains.calls (k : Nat) (a0 : Int) (r : Bool) (w : World) (h : catchwordlaw02_UtfPlains.f k a0 = some r) :
    Calls Try.prog 4 #[.int .i32 a0] w fun e w' => e = .returned (.bool r) ∧ Drawn0 w w' := by
  have H : ((catchwordlaw02_head.f k).bind fun t103 => (if t103 = true then ((utf_Plain.f a0).bind fun t104 => (if t104 = a0 then ((utf_Plain.f t104).bind fun t105 => (some (t105 == t104))) else (if t104 ≥ 65 then (catchwordlaw02_UtfPlains.j0 k a0 t104 (decide (t104 ≤ 90))) else (catchwordlaw02_UtfPlains.j0 k a0 t104 false)))) else (some false))) = some r := h
  clear h
  replace H := Option.bind_eq_some_iff.mp H
  obtain ⟨t103, A20, H⟩ := H
  replace H : (if t103 = true then ((utf_Plain.f a0).bind fun t104 => (if t104 = a0 then ((utf_Plain.f t104).bind fun t105 => (some (t105 == t104))) else (if t104 ≥ 65 then (catchwordlaw02_UtfPlains.j0 k a0 t104 (decide (t104 ≤ 90))) else (catchwordlaw02_UtfPlains.j0 k a0 t104 false)))) else (some false)) = some r := H
  have A2 := Aside0.mk A20
  clear A20
  by_cases c3 : t103 = true
  · subst c3
    have H1 : ((utf_Plain.f a0).bind fun t104 => (if t104 = a0 then ((utf_Plain.f t104).bind fun t105 => (some (t105 == t104))) else (if t104 ≥ 65 then (catchwordlaw02_UtfPlains.j0 k a0 t104 (decide (t104 ≤ 90))) else (catchwordlaw02_UtfPlains.j0 k a0 t104 false)))) = some r := by rw [if_pos rfl] at H; exact H
    clear H
    have H := H1
    clear H1
    replace H := Option.bind_eq_some_iff.mp H
    obtain ⟨t104, A40, H⟩ := H
    replace H : (if t104 = a0 then ((utf_Plain.f t104).bind fun t105 => (some (t105 == t104))) else (if t104 ≥ 65 then (catchwordlaw02_UtfPlains.j0 k a0 t104 (decide (t104 ≤ 90))) else (catchwordlaw02_UtfPlains.j0 k a0 t104 false))) = some r := H
    have A4 := Aside0.mk A40
    clear A40
    by_cases c5 : t104 = a0
    · rw [if_pos c5] at H
      have c5b0 : (t104 == a0) = true := beq_iff_eq.mpr c5
      have c5b1 : (t104 != a0) = false := bne_eq_false_iff_eq.mpr c5
      clear c5
      replace H := Option.bind_eq_some_iff.mp H
      obtain ⟨t105, A60, H⟩ := H
      replace H : (some (t105 == t104)) = some r := H
      have A6 := Aside0.mk A60
      clear A60
      obtain rfl := Option.some.inj H
      go_enter Try.func4, Try.ntmps4
      go_wp2_with (first | ((with_reducible refine gate_callee (f := 11) rfl ?_); refine goesL_ (some 5) rfl rfl Try.func11 (by kernel_rfl) rfl #[] rfl (by (try simp only [List.map_toArray, List.map_cons, List.map_nil]); first | done | rfl | (simp only [List.length_drop, List.length_take]; rfl)) ?_; (with_reducible refine (catchwordlaw02_head.calls k  true _ A2.out).mono ?_); rintro e w' ⟨rfl, ⟨nd, rfl⟩⟩; refine ⟨_, rfl, ?_⟩) | ((with_reducible refine gate_callee (f := 13) rfl ?_); refine goesL_ (some 8) rfl rfl Try.func13 (by kernel_rfl) rfl #[.int .i32 a0] rfl (by (try simp only [List.map_toArray, List.map_cons, List.map_nil]); first | done | rfl | (simp only [List.length_drop, List.length_take]; rfl)) ?_; (with_reducible refine (utf_Plain.calls a0 t104 _ A4.out).mono ?_); rintro e w' ⟨rfl, ⟨nd, rfl⟩⟩; refine ⟨_, rfl, ?_⟩) | ((with_reducible refine gate_callee (f := 13) rfl ?_); refine goesL_ (some 13) rfl rfl Try.func13 (by kernel_rfl) rfl #[.int .i32 t104] rfl (by (try simp only [List.map_toArray, List.map_cons, List.map_nil]); first | done | rfl | (simp only [List.length_drop, List.length_take]; rfl)) ?_; (with_reducible refine (utf_Plain.calls t104 t105 _ A6.out).mono ?_); rintro e w' ⟨rfl, ⟨nd, rfl⟩⟩; refine ⟨_, rfl, ?_⟩))
      go_ret
      exact ⟨by first | rfl | (simp; done) | (simp [*]; done), by repeat (first | exact Drawn0.refl _ | apply Drawn0.step)⟩
    · rw [if_neg c5] at H
      have c5b0 : (t104 == a0) = false := beq_eq_false_iff_ne.mpr c5
      have c5b1 : (t104 != a0) = true := bne_iff_ne.mpr c5
      have HC7 := Aside0.mk H
      clear H
      go_enter Try.func4, Try.ntmps4
      go_upto_region 6 with (first | ((with_reducible refine gate_callee (f := 11) rfl ?_); refine goesL_ (some 5) rfl rfl Try.func11 (by kernel_rfl) rfl #[] rfl (by (try simp only [List.map_toArray, List.map_cons, List.map_nil]); first | done | rfl | (simp only [List.length_drop, List.length_take]; rfl)) ?_; (with_reducible refine (catchwordlaw02_head.calls k  true _ A2.out).mono ?_); rintro e w' ⟨rfl, ⟨nd, rfl⟩⟩; refine ⟨_, rfl, ?_⟩) | ((with_reducible refine gate_callee (f := 13) rfl ?_); refine goesL_ (some 8) rfl rfl Try.func13 (by kernel_rfl) rfl #[.int .i32 a0] rfl (by (try simp only [List.map_toArray, List.map_cons, List.map_nil]); first | done | rfl | (simp only [List.length_drop, List.length_take]; rfl)) ?_; (with_reducible refine (utf_Plain.calls a0 t104 _ A4.out).mono ?_); rintro e w' ⟨rfl, ⟨nd, rfl⟩⟩; refine ⟨_, rfl, ?_⟩))
      (try simp only [Act.put, List.setIfInBounds_toArray, List.set_cons_zero, List.set_cons_succ])
      go_cut [4] (fun v4 wc => ∃ (kq : Nat) (x4_6 : Bool), v4 = .bool x4_6 ∧ Aside0 (catchwordlaw02_UtfPlains.j0 kq a0 t104 x4_6 = some r) ∧ Aside0 (kq ≤ k) ∧ Drawn0 w wc)
      case first =>
        have H := HC7.out
        clear HC7
        by_cases c8 : t104 ≥ 65
        · rw [if_pos c8] at H
          have c8b0 : decide (65 ≤ t104) = true := decide_eq_true c8
          clear c8
          (first | rw [c8b0] | (simp only [i64_w, i32_w]; rw [c8b0]) | skip)
          have H' := Aside0.mk H
          clear H
          go_wp2
          go_meet
          case rel => exact ⟨_, (decide (t104 ≤ 90)), (by first | rfl | (simp; done) | (simp [*]; done)), H', ⟨by first | omega | exact Nat.le_refl _⟩, by repeat (first | exact Drawn0.refl _ | apply Drawn0.step)⟩
        · rw [if_neg c8] at H
          have c8b0 : decide (65 ≤ t104) = false := decide_eq_false c8
          clear c8
          (first | rw [c8b0] | (simp only [i64_w, i32_w]; rw [c8b0]) | skip)
          have H' := Aside0.mk H
          clear H
          go_wp2
          go_meet
          case rel => exact ⟨_, (false), (by first | rfl | (simp; done) | (simp [*]; done)), H', ⟨by first | omega | exact Nat.le_refl _⟩, by repeat (first | exact Drawn0.refl _ | apply Drawn0.step)⟩
      case rest =>
        clear HC7
        try clear c1
        try clear p2
        try clear c3
        try clear c4
        try clear c5
        try clear c5b0
        try clear c5b1
        try clear c8
        try clear c8b0
        obtain ⟨kq, x4_6, rfl, HA, HJ6, ⟨mc6, rfl⟩⟩ := hcut
        cases kq with
        | zero => exact absurd HA.out (by simp [catchwordlaw02_UtfPlains.j0])
        | succ kj6 =>
          have H := HA.out
          clear HA
          simp only [catchwordlaw02_UtfPlains.j0] at H
          by_cases c9 : a0 ≥ 192
          · rw [if_pos c9] at H
            have c9b0 : decide (192 ≤ a0) = true := decide_eq_true c9
            clear c9
            by_cases c10 : a0 ≤ 383
            · rw [if_pos c10] at H
              have c10b0 : decide (a0 ≤ 383) = true := decide_eq_true c10
              clear c10
              by_cases c11 : x4_6 = true
              · subst c11
                have H1 : ((utf_Plain.f t104).bind fun t106 => (if t106 = t104 then ((utf_Low.f kj6 t104).bind fun t107 => ((utf_Low.f kj6 a0).bind fun t108 => ((utf_Plain.f t108).bind fun t109 => (some (t107 == t109))))) else (some false))) = some r := by rw [if_pos rfl] at H; exact H
                clear H
                have H := H1
                clear H1
                replace H := Option.bind_eq_some_iff.mp H
                obtain ⟨t106, A120, H⟩ := H
                replace H : (if t106 = t104 then ((utf_Low.f kj6 t104).bind fun t107 => ((utf_Low.f kj6 a0).bind fun t108 => ((utf_Plain.f t108).bind fun t109 => (some (t107 == t109))))) else (some false)) = some r := H
                have A12 := Aside0.mk A120
                clear A120
                by_cases c13 : t106 = t104
                · rw [if_pos c13] at H
                  have c13b0 : (t106 == t104) = true := beq_iff_eq.mpr c13
                  have c13b1 : (t106 != t104) = false := bne_eq_false_iff_eq.mpr c13
                  clear c13
                  replace H := Option.bind_eq_some_iff.mp H
                  obtain ⟨t107, A140, H⟩ := H
                  replace H : ((utf_Low.f kj6 a0).bind fun t108 => ((utf_Plain.f t108).bind fun t109 => (some (t107 == t109)))) = some r := H
                  have A14 := Aside0.mk A140
                  clear A140
                  replace H := Option.bind_eq_some_iff.mp H
                  obtain ⟨t108, A150, H⟩ := H
                  replace H : ((utf_Plain.f t108).bind fun t109 => (some (t107 == t109))) = some r := H
                  have A15 := Aside0.mk A150
                  clear A150
                  replace H := Option.bind_eq_some_iff.mp H
                  obtain ⟨t109, A160, H⟩ := H
                  replace H : (some (t107 == t109)) = some r := H
                  have A16 := Aside0.mk A160
                  clear A160
                  obtain rfl := Option.some.inj H
                  go_wp2_with (first | (go_at_call 13; (with_reducible refine (utf_Plain.calls t104 t106 _ A12.out).mono ?_); rintro e w' ⟨rfl, ⟨nd, rfl⟩⟩) | (go_at_call 12; (with_reducible refine (utf_Low.calls kj6 t104 t107 _ A14.out).mono ?_); rintro e w' ⟨rfl, ⟨nd, rfl⟩⟩) | (go_at_call 12; (with_reducible refine (utf_Low.calls kj6 a0 t108 _ A15.out).mono ?_); rintro e w' ⟨rfl, ⟨nd, rfl⟩⟩) | (go_at_call 13; (with_reducible refine (utf_Plain.calls t108 t109 _ A16.out).mono ?_); rintro e w' ⟨rfl, ⟨nd, rfl⟩⟩))
                  go_ret
                  exact ⟨by first | rfl | (simp; done) | (simp [*]; done), by repeat (first | exact Drawn0.refl _ | apply Drawn0.step)⟩
                · rw [if_neg c13] at H
                  have c13b0 : (t106 == t104) = false := beq_eq_false_iff_ne.mpr c13
                  have c13b1 : (t106 != t104) = true := bne_iff_ne.mpr c13
                  obtain rfl := Option.some.inj H
                  go_wp2_with (first | (go_at_call 13; (with_reducible refine (utf_Plain.calls t104 t106 _ A12.out).mono ?_); rintro e w' ⟨rfl, ⟨nd, rfl⟩⟩))
                  go_ret
                  exact ⟨by first | rfl | (simp; done) | (simp [*]; done), by repeat (first | exact Drawn0.refl _ | apply Drawn0.step)⟩
              · replace c11 := Bool.eq_false_iff.mpr c11
                subst c11
                have H1 : (if t104 ≥ 97 then (if t104 ≤ 122 then ((utf_Plain.f t104).bind fun t110 => (if t110 = t104 then ((utf_Low.f kj6 t104).bind fun t111 => ((utf_Low.f kj6 a0).bind fun t112 => ((utf_Plain.f t112).bind fun t113 => (some (t111 == t113))))) else (some false))) else (some false)) else (some false)) = some r := by rw [if_neg (show ¬ (false = true) by decide)] at H; exact H
                clear H
                have H := H1
                clear H1
                by_cases c17 : t104 ≥ 97
                · rw [if_pos c17] at H
                  have c17b0 : decide (97 ≤ t104) = true := decide_eq_true c17
                  clear c17
                  by_cases c18 : t104 ≤ 122
                  · rw [if_pos c18] at H
                    have c18b0 : decide (t104 ≤ 122) = true := decide_eq_true c18
                    clear c18
                    replace H := Option.bind_eq_some_iff.mp H
                    obtain ⟨t110, A190, H⟩ := H
                    replace H : (if t110 = t104 then ((utf_Low.f kj6 t104).bind fun t111 => ((utf_Low.f kj6 a0).bind fun t112 => ((utf_Plain.f t112).bind fun t113 => (some (t111 == t113))))) else (some false)) = some r := H
                    have A19 := Aside0.mk A190
                    clear A190
                    by_cases c20 : t110 = t104
                    · rw [if_pos c20] at H
                      have c20b0 : (t110 == t104) = true := beq_iff_eq.mpr c20
                      have c20b1 : (t110 != t104) = false := bne_eq_false_iff_eq.mpr c20
                      clear c20
                      replace H := Option.bind_eq_some_iff.mp H
                      obtain ⟨t111, A210, H⟩ := H
                      replace H : ((utf_Low.f kj6 a0).bind fun t112 => ((utf_Plain.f t112).bind fun t113 => (some (t111 == t113)))) = some r := H
                      have A21 := Aside0.mk A210
                      clear A210
                      replace H := Option.bind_eq_some_iff.mp H
                      obtain ⟨t112, A220, H⟩ := H
                      replace H : ((utf_Plain.f t112).bind fun t113 => (some (t111 == t113))) = some r := H
                      have A22 := Aside0.mk A220
                      clear A220
                      replace H := Option.bind_eq_some_iff.mp H
                      obtain ⟨t113, A230, H⟩ := H
                      replace H : (some (t111 == t113)) = some r := H
                      have A23 := Aside0.mk A230
                      clear A230
                      obtain rfl := Option.some.inj H
                      go_wp2_with (first | (go_at_call 13; (with_reducible refine (utf_Plain.calls t104 t110 _ A19.out).mono ?_); rintro e w' ⟨rfl, ⟨nd, rfl⟩⟩) | (go_at_call 12; (with_reducible refine (utf_Low.calls kj6 t104 t111 _ A21.out).mono ?_); rintro e w' ⟨rfl, ⟨nd, rfl⟩⟩) | (go_at_call 12; (with_reducible refine (utf_Low.calls kj6 a0 t112 _ A22.out).mono ?_); rintro e w' ⟨rfl, ⟨nd, rfl⟩⟩) | (go_at_call 13; (with_reducible refine (utf_Plain.calls t112 t113 _ A23.out).mono ?_); rintro e w' ⟨rfl, ⟨nd, rfl⟩⟩))
                      go_ret
                      exact ⟨by first | rfl | (simp; done) | (simp [*]; done), by repeat (first | exact Drawn0.refl _ | apply Drawn0.step)⟩
                    · rw [if_neg c20] at H
                      have c20b0 : (t110 == t104) = false := beq_eq_false_iff_ne.mpr c20
                      have c20b1 : (t110 != t104) = true := bne_iff_ne.mpr c20
                      obtain rfl := Option.some.inj H
                      go_wp2_with (first | (go_at_call 13; (with_reducible refine (utf_Plain.calls t104 t110 _ A19.out).mono ?_); rintro e w' ⟨rfl, ⟨nd, rfl⟩⟩))
                      go_ret
                      exact ⟨by first | rfl | (simp; done) | (simp [*]; done), by repeat (first | exact Drawn0.refl _ | apply Drawn0.step)⟩
                  · rw [if_neg c18] at H
                    have c18b0 : decide (t104 ≤ 122) = false := decide_eq_false c18
                    clear c18
                    obtain rfl := Option.some.inj H
                    go_wp2
                    go_ret
                    exact ⟨by first | rfl | (simp; done) | (simp [*]; done), by repeat (first | exact Drawn0.refl _ | apply Drawn0.step)⟩
                · rw [if_neg c17] at H
                  have c17b0 : decide (97 ≤ t104) = false := decide_eq_false c17
                  clear c17
                  obtain rfl := Option.some.inj H
                  go_wp2
                  go_ret
                  exact ⟨by first | rfl | (simp; done) | (simp [*]; done), by repeat (first | exact Drawn0.refl _ | apply Drawn0.step)⟩
            · rw [if_neg c10] at H
              have c10b0 : decide (a0 ≤ 383) = false := decide_eq_false c10
              clear c10
              obtain rfl := Option.some.inj H
              go_wp2
              go_ret
              exact ⟨by first | rfl | (simp; done) | (simp [*]; done), by repeat (first | exact Drawn0.refl _ | apply Drawn0.step)⟩
          · rw [if_neg c9] at H
            have c9b0 : decide (192 ≤ a0) = false := decide_eq_false c9
            clear c9
            obtain rfl := Option.some.inj H
            go_wp2
            go_ret
            exact ⟨by first | rfl | (simp; done) | (simp [*]; done), by repeat (first | exact Drawn0.refl _ | apply Drawn0.step)⟩
  · replace c3 := Bool.eq_false_iff.mpr c3
    subst c3
    have H1 : (some false) = some r := by rw [if_neg (show ¬ (false = true) by decide)] at H; exact H
    clear H
    have H := H1
    clear H1
    obtain rfl := Option.some.inj H
    go_enter Try.func4, Try.ntmps4
    go_wp2_with (first | ((with_reducible refine gate_callee (f := 11) rfl ?_); refine goesL_ (some 5) rfl rfl Try.func11 (by kernel_rfl) rfl #[] rfl (by (try simp only [List.map_toArray, List.map_cons, List.map_nil]); first | done | rfl | (simp only [List.length_drop, List.length_take]; rfl)) ?_; (with_reducible refine (catchwordlaw02_head.calls k  false _ A2.out).mono ?_); rintro e w' ⟨rfl, ⟨nd, rfl⟩⟩; refine ⟨_, rfl, ?_⟩))
    go_ret
    exact ⟨by first | rfl | (simp; done) | (simp [*]; done), by repeat (first | exact Drawn0.refl _ | apply Drawn0.step)⟩

/-- THE ONE PURE STATEMENT of catchwordlaw02_UtfPlains: yours. -/
def catchwordlaw02_UtfPlains.Pure : Prop := ∀ (a0 : Int), (Lit.int .i32 a0).wf = true → ∃ k, catchwordlaw02_UtfPlains.f k a0 = some true
theorem catchwordlaw02_UtfPlains.walk (P : catchwordlaw02_UtfPlains.Pure) (a0 : Int) (w : World) (w0 : (Lit.int .i32 a0).wf = true) :
    Calls Try.prog 4 #[.int .i32 a0] w fun e w' => e = .returned (.bool true) ∧ Below w.heap.size w w' := by
  obtain ⟨k, h⟩ := P a0 w0
  refine (catchwordlaw02_UtfPlains.calls k a0 true w h).mono ?_
  rintro e w' ⟨rfl, hd⟩
  exact ⟨rfl, hd.below⟩

end Go.Proofs.Ytkhhmjikohonfaa.PUtfPlains
