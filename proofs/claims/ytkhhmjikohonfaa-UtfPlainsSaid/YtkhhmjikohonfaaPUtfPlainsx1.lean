-- Written by a program of this session for the claim (a changed use of the kit's printer; not the printer's own print).
import Derived.Test.YtkhhmjikohonfaaPUtfPlainsx0
namespace Go.Proofs.Ytkhhmjikohonfaa.PUtfPlains
open Go.RowKit Go.Proofs.YtkhhmjikohonfaaW.PrintWords Go.Proofs.YtkhhmjikohonfaaW.PrintLast Go.Proofs.YtkhhmjikohonfaaW.PrintMore
attribute [local go_sem] max2_int min2_int max_two min_two max_three min_three max_four min_four   -- for this text's walks alone
set_option linter.unusedVariables false
set_option linter.unusedSimpArgs false

/-! ### utf_Low: function 12 -/
mutual
def utf_Low.j0 : Nat → Int → Bool → Option (Int)
  | 0, _, _ => none
  | k + 1, x0, x3 => if x3 = true then (utf_Low.j1 k x0 x3) else (if x0 ≥ 192 then (if x0 ≤ 222 then (utf_Low.j1 k x0 (x0 != 215)) else (utf_Low.j1 k x0 false)) else (utf_Low.j1 k x0 false))
def utf_Low.j1 : Nat → Int → Bool → Option (Int)
  | 0, _, _ => none
  | k + 1, x0, x3 => if x3 = true then (some (wrap32 (x0 + 32))) else (if x0 ≥ 256 then (if x0 ≤ 311 then (if x0 = 304 then (utf_Low.j2 k x0 false) else (utf_Low.j2 k x0 ((Go.bits .and .i32 x0 1) == 0))) else (utf_Low.j2 k x0 false)) else (utf_Low.j2 k x0 false))
def utf_Low.j2 : Nat → Int → Bool → Option (Int)
  | 0, _, _ => none
  | k + 1, x0, x22 => if x22 = true then (utf_Low.j3 k x0 x22) else (if x0 ≥ 330 then (if x0 ≤ 375 then (utf_Low.j3 k x0 ((Go.bits .and .i32 x0 1) == 0)) else (utf_Low.j3 k x0 false)) else (utf_Low.j3 k x0 false))
def utf_Low.j3 : Nat → Int → Bool → Option (Int)
  | 0, _, _ => none
  | k + 1, x0, x22 => if x22 = true then (some (wrap32 (x0 + 1))) else (if x0 ≥ 313 then (if x0 ≤ 328 then (utf_Low.j4 k x0 ((Go.bits .and .i32 x0 1) == 1)) else (utf_Low.j4 k x0 false)) else (utf_Low.j4 k x0 false))
def utf_Low.j4 : Nat → Int → Bool → Option (Int)
  | 0, _, _ => none
  | k + 1, x0, x51 => if x51 = true then (utf_Low.j5 k x0 x51) else (if x0 ≥ 377 then (if x0 ≤ 382 then (utf_Low.j5 k x0 ((Go.bits .and .i32 x0 1) == 1)) else (utf_Low.j5 k x0 false)) else (utf_Low.j5 k x0 false))
def utf_Low.j5 : Nat → Int → Bool → Option (Int)
  | 0, _, _ => none
  | k + 1, x0, x51 => if x51 = true then (some (wrap32 (x0 + 1))) else (if x0 = 376 then (some 255) else (some x0))
end
def utf_Low.f (k : Nat) (a0 : Int) : Option (Int) := if a0 ≥ 65 then (utf_Low.j0 k a0 (decide (a0 ≤ 90))) else (utf_Low.j0 k a0 false)
theorem utf_Low.mono_l : ∀ k, (∀ y0 y1, LeO (utf_Low.j0 k y0 y1) (utf_Low.j0 (k + 1) y0 y1)) ∧ (∀ y0 y1, LeO (utf_Low.j1 k y0 y1) (utf_Low.j1 (k + 1) y0 y1)) ∧ (∀ y0 y1, LeO (utf_Low.j2 k y0 y1) (utf_Low.j2 (k + 1) y0 y1)) ∧ (∀ y0 y1, LeO (utf_Low.j3 k y0 y1) (utf_Low.j3 (k + 1) y0 y1)) ∧ (∀ y0 y1, LeO (utf_Low.j4 k y0 y1) (utf_Low.j4 (k + 1) y0 y1)) ∧ (∀ y0 y1, LeO (utf_Low.j5 k y0 y1) (utf_Low.j5 (k + 1) y0 y1))
  | 0 => ⟨fun _ _ r h => by simp [utf_Low.j0] at h, fun _ _ r h => by simp [utf_Low.j1] at h, fun _ _ r h => by simp [utf_Low.j2] at h, fun _ _ r h => by simp [utf_Low.j3] at h, fun _ _ r h => by simp [utf_Low.j4] at h, fun _ _ r h => by simp [utf_Low.j5] at h⟩
  | k + 1 => by
    obtain ⟨ih0, ih1, ih2, ih3, ih4, ih5⟩ := utf_Low.mono_l k
    refine ⟨?_, ?_, ?_, ?_, ?_, ?_⟩
    · intro y0 y1
      unfold utf_Low.j0
      repeat' first
      | (with_reducible exact ih0 _ _)
      | (with_reducible exact ih1 _ _)
      | (with_reducible exact ih2 _ _)
      | (with_reducible exact ih3 _ _)
      | (with_reducible exact ih4 _ _)
      | (with_reducible exact ih5 _ _)
      | (with_reducible exact LeO.refl _)
      | (with_reducible exact LeO.none _)
      | (with_reducible refine LeO.ite ?_ ?_)
      | (with_reducible refine LeO.bind ?_ (fun _ => ?_))
      | exact ih0 _ _
      | exact ih1 _ _
      | exact ih2 _ _
      | exact ih3 _ _
      | exact ih4 _ _
      | exact ih5 _ _
      | exact LeO.none _
      | refine LeO.ite ?_ ?_
      | refine LeO.bind ?_ (fun _ => ?_)
    · intro y0 y1
      unfold utf_Low.j1
      repeat' first
      | (with_reducible exact ih0 _ _)
      | (with_reducible exact ih1 _ _)
      | (with_reducible exact ih2 _ _)
      | (with_reducible exact ih3 _ _)
      | (with_reducible exact ih4 _ _)
      | (with_reducible exact ih5 _ _)
      | (with_reducible exact LeO.refl _)
      | (with_reducible exact LeO.none _)
      | (with_reducible refine LeO.ite ?_ ?_)
      | (with_reducible refine LeO.bind ?_ (fun _ => ?_))
      | exact ih0 _ _
      | exact ih1 _ _
      | exact ih2 _ _
      | exact ih3 _ _
      | exact ih4 _ _
      | exact ih5 _ _
      | exact LeO.none _
      | refine LeO.ite ?_ ?_
      | refine LeO.bind ?_ (fun _ => ?_)
    · intro y0 y1
      unfold utf_Low.j2
      repeat' first
      | (with_reducible exact ih0 _ _)
      | (with_reducible exact ih1 _ _)
      | (with_reducible exact ih2 _ _)
      | (with_reducible exact ih3 _ _)
      | (with_reducible exact ih4 _ _)
      | (with_reducible exact ih5 _ _)
      | (with_reducible exact LeO.refl _)
      | (with_reducible exact LeO.none _)
      | (with_reducible refine LeO.ite ?_ ?_)
      | (with_reducible refine LeO.bind ?_ (fun _ => ?_))
      | exact ih0 _ _
      | exact ih1 _ _
      | exact ih2 _ _
      | exact ih3 _ _
      | exact ih4 _ _
      | exact ih5 _ _
      | exact LeO.none _
      | refine LeO.ite ?_ ?_
      | refine LeO.bind ?_ (fun _ => ?_)
    · intro y0 y1
      unfold utf_Low.j3
      repeat' first
      | (with_reducible exact ih0 _ _)
      | (with_reducible exact ih1 _ _)
      | (with_reducible exact ih2 _ _)
      | (with_reducible exact ih3 _ _)
      | (with_reducible exact ih4 _ _)
      | (with_reducible exact ih5 _ _)
      | (with_reducible exact LeO.refl _)
      | (with_reducible exact LeO.none _)
      | (with_reducible refine LeO.ite ?_ ?_)
      | (with_reducible refine LeO.bind ?_ (fun _ => ?_))
      | exact ih0 _ _
      | exact ih1 _ _
      | exact ih2 _ _
      | exact ih3 _ _
      | exact ih4 _ _
      | exact ih5 _ _
      | exact LeO.none _
      | refine LeO.ite ?_ ?_
      | refine LeO.bind ?_ (fun _ => ?_)
    · intro y0 y1
      unfold utf_Low.j4
      repeat' first
      | (with_reducible exact ih0 _ _)
      | (with_reducible exact ih1 _ _)
      | (with_reducible exact ih2 _ _)
      | (with_reducible exact ih3 _ _)
      | (with_reducible exact ih4 _ _)
      | (with_reducible exact ih5 _ _)
      | (with_reducible exact LeO.refl _)
      | (with_reducible exact LeO.none _)
      | (with_reducible refine LeO.ite ?_ ?_)
      | (with_reducible refine LeO.bind ?_ (fun _ => ?_))
      | exact ih0 _ _
      | exact ih1 _ _
      | exact ih2 _ _
      | exact ih3 _ _
      | exact ih4 _ _
      | exact ih5 _ _
      | exact LeO.none _
      | refine LeO.ite ?_ ?_
      | refine LeO.bind ?_ (fun _ => ?_)
    · intro y0 y1
      unfold utf_Low.j5
      repeat' first
      | (with_reducible exact ih0 _ _)
      | (with_reducible exact ih1 _ _)
      | (with_reducible exact ih2 _ _)
      | (with_reducible exact ih3 _ _)
      | (with_reducible exact ih4 _ _)
      | (with_reducible exact ih5 _ _)
      | (with_reducible exact LeO.refl _)
      | (with_reducible exact LeO.none _)
      | (with_reducible refine LeO.ite ?_ ?_)
      | (with_reducible refine LeO.bind ?_ (fun _ => ?_))
      | exact ih0 _ _
      | exact ih1 _ _
      | exact ih2 _ _
      | exact ih3 _ _
      | exact ih4 _ _
      | exact ih5 _ _
      | exact LeO.none _
      | refine LeO.ite ?_ ?_
      | refine LeO.bind ?_ (fun _ => ?_)
theorem utf_Low.mono : ∀ a0 k, LeO (utf_Low.f k a0) (utf_Low.f (k + 1) a0) := by
  intro a0 k
  obtain ⟨ih0, ih1, ih2, ih3, ih4, ih5⟩ := utf_Low.mono_l k
  unfold utf_Low.f
  repeat' first
      | (with_reducible exact ih0 _ _)
      | (with_reducible exact ih1 _ _)
      | (with_reducible exact ih2 _ _)
      | (with_reducible exact ih3 _ _)
      | (with_reducible exact ih4 _ _)
      | (with_reducible exact ih5 _ _)
      | (with_reducible exact LeO.refl _)
      | (with_reducible exact LeO.none _)
      | (with_reducible refine LeO.ite ?_ ?_)
      | (with_reducible refine LeO.bind ?_ (fun _ => ?_))
      | exact ih0 _ _
      | exact ih1 _ _
      | exact ih2 _ _
      | exact ih3 _ _
      | exact ih4 _ _
      | exact ih5 _ _
      | exact LeO.none _
      | refine LeO.ite ?_ ?_
      | refine LeO.bind ?_ (fun _ => ?_)
set_option maxHeartbeats 8000000 in
set_option maxRecDepth 100000 in
theorem utf_Low.calls (k : Nat) (a0 : Int) (r : Int) (w : World) (h : utf_Low.f k a0 = some r) :
    Calls Try.prog 12 #[.int .i32 a0] w fun e w' => e = .returned (.int .i32 r) ∧ Drawn0 w w' := by
  have H : (if a0 ≥ 65 then (utf_Low.j0 k a0 (decide (a0 ≤ 90))) else (utf_Low.j0 k a0 false)) = some r := h
  clear h
  have HC2 := Aside0.mk H
  clear H
  go_enter Try.func12, Try.ntmps12
  go_upto_region 1 with (fail)
  go_cut [3] (fun v3 wc => ∃ (kq : Nat) (x3_1 : Bool), v3 = .bool x3_1 ∧ Aside0 (utf_Low.j0 kq a0 x3_1 = some r) ∧ Aside0 (kq ≤ k) ∧ Drawn0 w wc)
  case first =>
    have H := HC2.out
    clear HC2
    by_cases c3 : a0 ≥ 65
    · rw [if_pos c3] at H
      have c3b0 : decide (65 ≤ a0) = true := decide_eq_true c3
      clear c3
      (first | rw [c3b0] | (simp only [i64_w, i32_w]; rw [c3b0]) | skip)
      have H' := Aside0.mk H
      clear H
      go_wp2
      go_meet
      case rel => exact ⟨_, (decide (a0 ≤ 90)), (by first | rfl | (simp; done) | (simp [*]; done)), H', ⟨by first | omega | exact Nat.le_refl _⟩, by repeat (first | exact Drawn0.refl _ | apply Drawn0.step)⟩
    · rw [if_neg c3] at H
      have c3b0 : decide (65 ≤ a0) = false := decide_eq_false c3
      clear c3
      (first | rw [c3b0] | (simp only [i64_w, i32_w]; rw [c3b0]) | skip)
      have H' := Aside0.mk H
      clear H
      go_wp2
      go_meet
      case rel => exact ⟨_, (false), (by first | rfl | (simp; done) | (simp [*]; done)), H', ⟨by first | omega | exact Nat.le_refl _⟩, by repeat (first | exact Drawn0.refl _ | apply Drawn0.step)⟩
  case rest =>
    clear HC2
    try clear c1
    try clear p2
    try clear c3
    try clear c3b0
    obtain ⟨kq, x3_1, rfl, HA, HJ1, ⟨mc1, rfl⟩⟩ := hcut
    cases kq with
    | zero => exact absurd HA.out (by simp [utf_Low.j0])
    | succ kj1 =>
      have H := HA.out
      clear HA
      simp only [utf_Low.j0] at H
      have HC4 := Aside0.mk H
      clear H
      go_upto_if 3 with (fail)
      go_cut [3] (fun v3 wc => ∃ (kq : Nat) (x3_3 : Bool), v3 = .bool x3_3 ∧ Aside0 (utf_Low.j1 kq a0 x3_3 = some r) ∧ Aside0 (kq ≤ kj1) ∧ Drawn0 w wc)
      case first =>
        have H := HC4.out
        clear HC4
        by_cases c5 : x3_1 = true
        · subst c5
          have H1 : (utf_Low.j1 kj1 a0 true) = some r := by rw [if_pos rfl] at H; exact H
          clear H
          have H := H1
          clear H1
          have H' := Aside0.mk H
          clear H
          go_wp2
          go_meet
          case rel => exact ⟨_, (true), (by first | rfl | (simp; done) | (simp [*]; done)), H', ⟨by have := HJ1.out; first | omega | exact Nat.le_refl _⟩, by repeat (first | exact Drawn0.refl _ | apply Drawn0.step)⟩
        · replace c5 := Bool.eq_false_iff.mpr c5
          subst c5
          have H1 : (if a0 ≥ 192 then (if a0 ≤ 222 then (utf_Low.j1 kj1 a0 (a0 != 215)) else (utf_Low.j1 kj1 a0 false)) else (utf_Low.j1 kj1 a0 false)) = some r := by rw [if_neg (show ¬ (false = true) by decide)] at H; exact H
          clear H
          have H := H1
          clear H1
          by_cases c6 : a0 ≥ 192
          · rw [if_pos c6] at H
            have c6b0 : decide (192 ≤ a0) = true := decide_eq_true c6
            clear c6
            (first | rw [c6b0] | (simp only [i64_w, i32_w]; rw [c6b0]) | skip)
            by_cases c7 : a0 ≤ 222
            · rw [if_pos c7] at H
              have c7b0 : decide (a0 ≤ 222) = true := decide_eq_true c7
              clear c7
              have H' := Aside0.mk H
              clear H
              go_wp2
              go_meet
              case rel => exact ⟨_, ((a0 != 215)), (by first | rfl | (simp; done) | (simp [*]; done)), H', ⟨by have := HJ1.out; first | omega | exact Nat.le_refl _⟩, by repeat (first | exact Drawn0.refl _ | apply Drawn0.step)⟩
            · rw [if_neg c7] at H
              have c7b0 : decide (a0 ≤ 222) = false := decide_eq_false c7
              clear c7
              have H' := Aside0.mk H
              clear H
              go_wp2
              go_meet
              case rel => exact ⟨_, (false), (by first | rfl | (simp; done) | (simp [*]; done)), H', ⟨by have := HJ1.out; first | omega | exact Nat.le_refl _⟩, by repeat (first | exact Drawn0.refl _ | apply Drawn0.step)⟩
          · rw [if_neg c6] at H
            have c6b0 : decide (192 ≤ a0) = false := decide_eq_false c6
            clear c6
            (first | rw [c6b0] | (simp only [i64_w, i32_w]; rw [c6b0]) | skip)
            have H' := Aside0.mk H
            clear H
            go_wp2
            go_meet
            case rel => exact ⟨_, (false), (by first | rfl | (simp; done) | (simp [*]; done)), H', ⟨by have := HJ1.out; first | omega | exact Nat.le_refl _⟩, by repeat (first | exact Drawn0.refl _ | apply Drawn0.step)⟩
      case rest =>
        clear HC4
        try clear c1
        try clear p2
        try clear c3
        try clear c3b0
        try clear c5
        try clear c6
        try clear c6b0
        try clear c7
        try clear c7b0
        try clear p2
        obtain ⟨kq, x3_3, rfl, HA, HJ3, ⟨mc3, rfl⟩⟩ := hcut
        cases kq with
        | zero => exact absurd HA.out (by simp [utf_Low.j1])
        | succ kj3 =>
          have H := HA.out
          clear HA
          simp only [utf_Low.j1] at H
          by_cases c8 : x3_3 = true
          · subst c8
            have H1 : (some (wrap32 (a0 + 32))) = some r := by rw [if_pos rfl] at H; exact H
            clear H
            have H := H1
            clear H1
            obtain rfl := Option.some.inj H
            go_wp2
            go_ret
            exact ⟨by first | rfl | (simp; done) | (simp [*]; done), by repeat (first | exact Drawn0.refl _ | apply Drawn0.step)⟩
          · replace c8 := Bool.eq_false_iff.mpr c8
            subst c8
            have H1 : (if a0 ≥ 256 then (if a0 ≤ 311 then (if a0 = 304 then (utf_Low.j2 kj3 a0 false) else (utf_Low.j2 kj3 a0 ((Go.bits .and .i32 a0 1) == 0))) else (utf_Low.j2 kj3 a0 false)) else (utf_Low.j2 kj3 a0 false)) = some r := by rw [if_neg (show ¬ (false = true) by decide)] at H; exact H
            clear H
            have H := H1
            clear H1
            have HC9 := Aside0.mk H
            clear H
            go_upto_region 4 with (fail)
            go_cut [22] (fun v22 wc => ∃ (kq : Nat) (x22_8 : Bool), v22 = .bool x22_8 ∧ Aside0 (utf_Low.j2 kq a0 x22_8 = some r) ∧ Aside0 (kq ≤ kj3) ∧ Drawn0 w wc)
            case first =>
              have H := HC9.out
              clear HC9
              by_cases c10 : a0 ≥ 256
              · rw [if_pos c10] at H
                have c10b0 : decide (256 ≤ a0) = true := decide_eq_true c10
                clear c10
                (first | rw [c10b0] | (simp only [i64_w, i32_w]; rw [c10b0]) | skip)
                by_cases c11 : a0 ≤ 311
                · rw [if_pos c11] at H
                  have c11b0 : decide (a0 ≤ 311) = true := decide_eq_true c11
                  clear c11
                  by_cases c12 : a0 = 304
                  · rw [if_pos c12] at H
                    have c12b0 : (a0 == 304) = true := beq_iff_eq.mpr c12
                    have c12b1 : (a0 != 304) = false := bne_eq_false_iff_eq.mpr c12
                    clear c12
                    have H' := Aside0.mk H
                    clear H
                    go_wp2
                    go_meet
                    case rel => exact ⟨_, (false), (by first | rfl | (simp; done) | (simp [*]; done)), H', ⟨by have := HJ1.out; have := HJ3.out; first | omega | exact Nat.le_refl _⟩, by repeat (first | exact Drawn0.refl _ | apply Drawn0.step)⟩
                  · rw [if_neg c12] at H
                    have c12b0 : (a0 == 304) = false := beq_eq_false_iff_ne.mpr c12
                    have c12b1 : (a0 != 304) = true := bne_iff_ne.mpr c12
                    have H' := Aside0.mk H
                    clear H
                    go_wp2
                    go_meet
                    case rel => exact ⟨_, (((Go.bits .and .i32 a0 1) == 0)), (by first | rfl | (simp; done) | (simp [*]; done)), H', ⟨by have := HJ1.out; have := HJ3.out; first | omega | exact Nat.le_refl _⟩, by repeat (first | exact Drawn0.refl _ | apply Drawn0.step)⟩
                · rw [if_neg c11] at H
                  have c11b0 : decide (a0 ≤ 311) = false := decide_eq_false c11
                  clear c11
                  have H' := Aside0.mk H
                  clear H
                  go_wp2
                  go_meet
                  case rel => exact ⟨_, (false), (by first | rfl | (simp; done) | (simp [*]; done)), H', ⟨by have := HJ1.out; have := HJ3.out; first | omega | exact Nat.le_refl _⟩, by repeat (first | exact Drawn0.refl _ | apply Drawn0.step)⟩
              · rw [if_neg c10] at H
                have c10b0 : decide (256 ≤ a0) = false := decide_eq_false c10
                clear c10
                (first | rw [c10b0] | (simp only [i64_w, i32_w]; rw [c10b0]) | skip)
                have H' := Aside0.mk H
                clear H
                go_wp2
                go_meet
                case rel => exact ⟨_, (false), (by first | rfl | (simp; done) | (simp [*]; done)), H', ⟨by have := HJ1.out; have := HJ3.out; first | omega | exact Nat.le_refl _⟩, by repeat (first | exact Drawn0.refl _ | apply Drawn0.step)⟩
            case rest =>
              clear HC9
              try clear c1
              try clear p2
              try clear c3
              try clear c3b0
              try clear p3
              try clear c5
              try clear c6
              try clear c6b0
              try clear c7
              try clear c7b0
              try clear c8
              try clear c10
              try clear c10b0
              try clear c11
              try clear c11b0
              try clear c12
              try clear c12b0
              try clear c12b1
              try clear p2
              obtain ⟨kq, x22_8, rfl, HA, HJ8, ⟨mc8, rfl⟩⟩ := hcut
              cases kq with
              | zero => exact absurd HA.out (by simp [utf_Low.j2])
              | succ kj8 =>
                have H := HA.out
                clear HA
                simp only [utf_Low.j2] at H
                have HC13 := Aside0.mk H
                clear H
                go_upto_if 22 with (fail)
                go_cut [22] (fun v22 wc => ∃ (kq : Nat) (x22_12 : Bool), v22 = .bool x22_12 ∧ Aside0 (utf_Low.j3 kq a0 x22_12 = some r) ∧ Aside0 (kq ≤ kj8) ∧ Drawn0 w wc)
                case first =>
                  have H := HC13.out
                  clear HC13
                  by_cases c14 : x22_8 = true
                  · subst c14
                    have H1 : (utf_Low.j3 kj8 a0 true) = some r := by rw [if_pos rfl] at H; exact H
                    clear H
                    have H := H1
                    clear H1
                    have H' := Aside0.mk H
                    clear H
                    go_wp2
                    go_meet
                    case rel => exact ⟨_, (true), (by first | rfl | (simp; done) | (simp [*]; done)), H', ⟨by have := HJ1.out; have := HJ3.out; have := HJ8.out; first | omega | exact Nat.le_refl _⟩, by repeat (first | exact Drawn0.refl _ | apply Drawn0.step)⟩
                  · replace c14 := Bool.eq_false_iff.mpr c14
                    subst c14
                    have H1 : (if a0 ≥ 330 then (if a0 ≤ 375 then (utf_Low.j3 kj8 a0 ((Go.bits .and .i32 a0 1) == 0)) else (utf_Low.j3 kj8 a0 false)) else (utf_Low.j3 kj8 a0 false)) = some r := by rw [if_neg (show ¬ (false = true) by decide)] at H; exact H
                    clear H
                    have H := H1
                    clear H1
                    by_cases c15 : a0 ≥ 330
                    · rw [if_pos c15] at H
                      have c15b0 : decide (330 ≤ a0) = true := decide_eq_true c15
                      clear c15
                      (first | rw [c15b0] | (simp only [i64_w, i32_w]; rw [c15b0]) | skip)
                      by_cases c16 : a0 ≤ 375
                      · rw [if_pos c16] at H
                        have c16b0 : decide (a0 ≤ 375) = true := decide_eq_true c16
                        clear c16
                        have H' := Aside0.mk H
                        clear H
                        go_wp2
                        go_meet
                        case rel => exact ⟨_, (((Go.bits .and .i32 a0 1) == 0)), (by first | rfl | (simp; done) | (simp [*]; done)), H', ⟨by have := HJ1.out; have := HJ3.out; have := HJ8.out; first | omega | exact Nat.le_refl _⟩, by repeat (first | exact Drawn0.refl _ | apply Drawn0.step)⟩
                      · rw [if_neg c16] at H
                        have c16b0 : decide (a0 ≤ 375) = false := decide_eq_false c16
                        clear c16
                        have H' := Aside0.mk H
                        clear H
                        go_wp2
                        go_meet
                        case rel => exact ⟨_, (false), (by first | rfl | (simp; done) | (simp [*]; done)), H', ⟨by have := HJ1.out; have := HJ3.out; have := HJ8.out; first | omega | exact Nat.le_refl _⟩, by repeat (first | exact Drawn0.refl _ | apply Drawn0.step)⟩
                    · rw [if_neg c15] at H
                      have c15b0 : decide (330 ≤ a0) = false := decide_eq_false c15
                      clear c15
                      (first | rw [c15b0] | (simp only [i64_w, i32_w]; rw [c15b0]) | skip)
                      have H' := Aside0.mk H
                      clear H
                      go_wp2
                      go_meet
                      case rel => exact ⟨_, (false), (by first | rfl | (simp; done) | (simp [*]; done)), H', ⟨by have := HJ1.out; have := HJ3.out; have := HJ8.out; first | omega | exact Nat.le_refl _⟩, by repeat (first | exact Drawn0.refl _ | apply Drawn0.step)⟩
                case rest =>
                  clear HC13
                  try clear c1
                  try clear p2
                  try clear c3
                  try clear c3b0
                  try clear p3
                  try clear c5
                  try clear c6
                  try clear c6b0
                  try clear c7
                  try clear c7b0
                  try clear c8
                  try clear c10
                  try clear c10b0
                  try clear c11
                  try clear c11b0
                  try clear c12
                  try clear c12b0
                  try clear c12b1
                  try clear c14
                  try clear c15
                  try clear c15b0
                  try clear c16
                  try clear c16b0
                  try clear p2
                  try clear p3
                  obtain ⟨kq, x22_12, rfl, HA, HJ12, ⟨mc12, rfl⟩⟩ := hcut
                  cases kq with
                  | zero => exact absurd HA.out (by simp [utf_Low.j3])
                  | succ kj12 =>
                    have H := HA.out
                    clear HA
                    simp only [utf_Low.j3] at H
                    by_cases c17 : x22_12 = true
                    · subst c17
                      have H1 : (some (wrap32 (a0 + 1))) = some r := by rw [if_pos rfl] at H; exact H
                      clear H
                      have H := H1
                      clear H1
                      obtain rfl := Option.some.inj H
                      go_wp2
                      go_ret
                      exact ⟨by first | rfl | (simp; done) | (simp [*]; done), by repeat (first | exact Drawn0.refl _ | apply Drawn0.step)⟩
                    · replace c17 := Bool.eq_false_iff.mpr c17
                      subst c17
                      have H1 : (if a0 ≥ 313 then (if a0 ≤ 328 then (utf_Low.j4 kj12 a0 ((Go.bits .and .i32 a0 1) == 1)) else (utf_Low.j4 kj12 a0 false)) else (utf_Low.j4 kj12 a0 false)) = some r := by rw [if_neg (show ¬ (false = true) by decide)] at H; exact H
                      clear H
                      have H := H1
                      clear H1
                      have HC18 := Aside0.mk H
                      clear H
                      go_upto_region 7 with (fail)
                      go_cut [51] (fun v51 wc => ∃ (kq : Nat) (x51_17 : Bool), v51 = .bool x51_17 ∧ Aside0 (utf_Low.j4 kq a0 x51_17 = some r) ∧ Aside0 (kq ≤ kj12) ∧ Drawn0 w wc)
                      case first =>
                        have H := HC18.out
                        clear HC18
                        by_cases c19 : a0 ≥ 313
                        · rw [if_pos c19] at H
                          have c19b0 : decide (313 ≤ a0) = true := decide_eq_true c19
                          clear c19
                          (first | rw [c19b0] | (simp only [i64_w, i32_w]; rw [c19b0]) | skip)
                          by_cases c20 : a0 ≤ 328
                          · rw [if_pos c20] at H
                            have c20b0 : decide (a0 ≤ 328) = true := decide_eq_true c20
                            clear c20
                            have H' := Aside0.mk H
                            clear H
                            go_wp2
                            go_meet
                            case rel => exact ⟨_, (((Go.bits .and .i32 a0 1) == 1)), (by first | rfl | (simp; done) | (simp [*]; done)), H', ⟨by have := HJ1.out; have := HJ3.out; have := HJ8.out; have := HJ12.out; first | omega | exact Nat.le_refl _⟩, by repeat (first | exact Drawn0.refl _ | apply Drawn0.step)⟩
                          · rw [if_neg c20] at H
                            have c20b0 : decide (a0 ≤ 328) = false := decide_eq_false c20
                            clear c20
                            have H' := Aside0.mk H
                            clear H
                            go_wp2
                            go_meet
                            case rel => exact ⟨_, (false), (by first | rfl | (simp; done) | (simp [*]; done)), H', ⟨by have := HJ1.out; have := HJ3.out; have := HJ8.out; have := HJ12.out; first | omega | exact Nat.le_refl _⟩, by repeat (first | exact Drawn0.refl _ | apply Drawn0.step)⟩
                        · rw [if_neg c19] at H
                          have c19b0 : decide (313 ≤ a0) = false := decide_eq_false c19
                          clear c19
                          (first | rw [c19b0] | (simp only [i64_w, i32_w]; rw [c19b0]) | skip)
                          have H' := Aside0.mk H
                          clear H
                          go_wp2
                          go_meet
                          case rel => exact ⟨_, (false), (by first | rfl | (simp; done) | (simp [*]; done)), H', ⟨by have := HJ1.out; have := HJ3.out; have := HJ8.out; have := HJ12.out; first | omega | exact Nat.le_refl _⟩, by repeat (first | exact Drawn0.refl _ | apply Drawn0.step)⟩
                      case rest =>
                        clear HC18
                        try clear c1
                        try clear c2
                        try clear p2
                        try clear c3
                        try clear c3b0
                        try clear p3
                        try clear c5
                        try clear c6
                        try clear c6b0
                        try clear c7
                        try clear c7b0
                        try clear c8
                        try clear c10
                        try clear c10b0
                        try clear c11
                        try clear c11b0
                        try clear c12
                        try clear c12b0
                        try clear c12b1
                        try clear c14
                        try clear c15
                        try clear c15b0
                        try clear c16
                        try clear c16b0
                        try clear c17
                        try clear c19
                        try clear c19b0
                        try clear c20
                        try clear c20b0
                        try clear p2
                        try clear p3
                        obtain ⟨kq, x51_17, rfl, HA, HJ17, ⟨mc17, rfl⟩⟩ := hcut
                        cases kq with
                        | zero => exact absurd HA.out (by simp [utf_Low.j4])
                        | succ kj17 =>
                          have H := HA.out
                          clear HA
                          simp only [utf_Low.j4] at H
                          have HC21 := Aside0.mk H
                          clear H
                          go_upto_if 51 with (fail)
                          go_cut [51] (fun v51 wc => ∃ (kq : Nat) (x51_20 : Bool), v51 = .bool x51_20 ∧ Aside0 (utf_Low.j5 kq a0 x51_20 = some r) ∧ Aside0 (kq ≤ kj17) ∧ Drawn0 w wc)
                          case first =>
                            have H := HC21.out
                            clear HC21
                            by_cases c22 : x51_17 = true
                            · subst c22
                              have H1 : (utf_Low.j5 kj17 a0 true) = some r := by rw [if_pos rfl] at H; exact H
                              clear H
                              have H := H1
                              clear H1
                              have H' := Aside0.mk H
                              clear H
                              go_wp2
                              go_meet
                              case rel => exact ⟨_, (true), (by first | rfl | (simp; done) | (simp [*]; done)), H', ⟨by have := HJ1.out; have := HJ3.out; have := HJ8.out; have := HJ12.out; have := HJ17.out; first | omega | exact Nat.le_refl _⟩, by repeat (first | exact Drawn0.refl _ | apply Drawn0.step)⟩
                            · replace c22 := Bool.eq_false_iff.mpr c22
                              subst c22
                              have H1 : (if a0 ≥ 377 then (if a0 ≤ 382 then (utf_Low.j5 kj17 a0 ((Go.bits .and .i32 a0 1) == 1)) else (utf_Low.j5 kj17 a0 false)) else (utf_Low.j5 kj17 a0 false)) = some r := by rw [if_neg (show ¬ (false = true) by decide)] at H; exact H
                              clear H
                              have H := H1
                              clear H1
                              by_cases c23 : a0 ≥ 377
                              · rw [if_pos c23] at H
                                have c23b0 : decide (377 ≤ a0) = true := decide_eq_true c23
                                clear c23
                                (first | rw [c23b0] | (simp only [i64_w, i32_w]; rw [c23b0]) | skip)
                                by_cases c24 : a0 ≤ 382
                                · rw [if_pos c24] at H
                                  have c24b0 : decide (a0 ≤ 382) = true := decide_eq_true c24
                                  clear c24
                                  have H' := Aside0.mk H
                                  clear H
                                  go_wp2
                                  go_meet
                                  case rel => exact ⟨_, (((Go.bits .and .i32 a0 1) == 1)), (by first | rfl | (simp; done) | (simp [*]; done)), H', ⟨by have := HJ1.out; have := HJ3.out; have := HJ8.out; have := HJ12.out; have := HJ17.out; first | omega | exact Nat.le_refl _⟩, by repeat (first | exact Drawn0.refl _ | apply Drawn0.step)⟩
                                · rw [if_neg c24] at H
                                  have c24b0 : decide (a0 ≤ 382) = false := decide_eq_false c24
                                  clear c24
                                  have H' := Aside0.mk H
                                  clear H
                                  go_wp2
                                  go_meet
                                  case rel => exact ⟨_, (false), (by first | rfl | (simp; done) | (simp [*]; done)), H', ⟨by have := HJ1.out; have := HJ3.out; have := HJ8.out; have := HJ12.out; have := HJ17.out; first | omega | exact Nat.le_refl _⟩, by repeat (first | exact Drawn0.refl _ | apply Drawn0.step)⟩
                              · rw [if_neg c23] at H
                                have c23b0 : decide (377 ≤ a0) = false := decide_eq_false c23
                                clear c23
                                (first | rw [c23b0] | (simp only [i64_w, i32_w]; rw [c23b0]) | skip)
                                have H' := Aside0.mk H
                                clear H
                                go_wp2
                                go_meet
                                case rel => exact ⟨_, (false), (by first | rfl | (simp; done) | (simp [*]; done)), H', ⟨by have := HJ1.out; have := HJ3.out; have := HJ8.out; have := HJ12.out; have := HJ17.out; first | omega | exact Nat.le_refl _⟩, by repeat (first | exact Drawn0.refl _ | apply Drawn0.step)⟩
                          case rest =>
                            clear HC21
                            try clear c1
                            try clear c2
                            try clear p2
                            try clear c3
                            try clear c3b0
                            try clear p3
                            try clear c5
                            try clear c6
                            try clear c6b0
                            try clear c7
                            try clear c7b0
                            try clear c8
                            try clear c10
                            try clear c10b0
                            try clear c11
                            try clear c11b0
                            try clear c12
                            try clear c12b0
                            try clear c12b1
                            try clear c14
                            try clear c15
                            try clear c15b0
                            try clear c16
                            try clear c16b0
                            try clear c17
                            try clear c19
                            try clear c19b0
                            try clear c20
                            try clear c20b0
                            try clear c22
                            try clear c23
                            try clear c23b0
                            try clear c24
                            try clear c24b0
                            try clear p2
                            try clear p3
                            obtain ⟨kq, x51_20, rfl, HA, HJ20, ⟨mc20, rfl⟩⟩ := hcut
                            cases kq with
                            | zero => exact absurd HA.out (by simp [utf_Low.j5])
                            | succ kj20 =>
                              have H := HA.out
                              clear HA
                              simp only [utf_Low.j5] at H
                              by_cases c25 : x51_20 = true
                              · subst c25
                                have H1 : (some (wrap32 (a0 + 1))) = some r := by rw [if_pos rfl] at H; exact H
                                clear H
                                have H := H1
                                clear H1
                                obtain rfl := Option.some.inj H
                                go_wp2
                                go_ret
                                exact ⟨by first | rfl | (simp; done) | (simp [*]; done), by repeat (first | exact Drawn0.refl _ | apply Drawn0.step)⟩
                              · replace c25 := Bool.eq_false_iff.mpr c25
                                subst c25
                                have H1 : (if a0 = 376 then (some 255) else (some a0)) = some r := by rw [if_neg (show ¬ (false = true) by decide)] at H; exact H
                                clear H
                                have H := H1
                                clear H1
                                by_cases c26 : a0 = 376
                                · rw [if_pos c26] at H
                                  have c26b0 : (a0 == 376) = true := beq_iff_eq.mpr c26
                                  have c26b1 : (a0 != 376) = false := bne_eq_false_iff_eq.mpr c26
                                  clear c26
                                  obtain rfl := Option.some.inj H
                                  go_wp2
                                  go_ret
                                  exact ⟨by first | rfl | (simp; done) | (simp [*]; done), by repeat (first | exact Drawn0.refl _ | apply Drawn0.step)⟩
                                · rw [if_neg c26] at H
                                  have c26b0 : (a0 == 376) = false := beq_eq_false_iff_ne.mpr c26
                                  have c26b1 : (a0 != 376) = true := bne_iff_ne.mpr c26
                                  obtain rfl := Option.some.inj H
                                  go_wp2
                                  go_ret
                                  exact ⟨by first | rfl | (simp; done) | (simp [*]; done), by repeat (first | exact Drawn0.refl _ | apply Drawn0.step)⟩

/-! ### utf_Plain: function 13 -/
def utf_Plain.f (a0 : Int) : Option (Int) := if a0 < 192 then (some a0) else (if (wrap64 ((wrap64 (a0)) - 192)) ≥ 192 then (some a0) else (if 0 ≤ (wrap64 ((wrap64 (a0)) - 192)) then (if (wrap64 ((wrap64 (a0)) - 192)) < 192 then (if (bt (⟨#[65, 65, 65, 65, 65, 65, 45, 67, 69, 69, 69, 69, 73, 73, 73, 73, 45, 78, 79, 79, 79, 79, 79, 45, 45, 85, 85, 85, 85, 89, 45, 45, 97, 97, 97, 97, 97, 97, 45, 99, 101, 101, 101, 101, 105, 105, 105, 105, 45, 110, 111, 111, 111, 111, 111, 45, 45, 117, 117, 117, 117, 121, 45, 121, 65, 97, 65, 97, 65, 97, 67, 99, 67, 99, 67, 99, 67, 99, 68, 100, 45, 45, 69, 101, 69, 101, 69, 101, 69, 101, 69, 101, 71, 103, 71, 103, 71, 103, 71, 103, 72, 104, 45, 45, 73, 105, 73, 105, 73, 105, 73, 105, 45, 45, 45, 45, 74, 106, 75, 107, 45, 76, 108, 76, 108, 76, 108, 45, 45, 45, 45, 78, 110, 78, 110, 78, 110, 45, 45, 45, 79, 111, 79, 111, 79, 111, 45, 45, 82, 114, 82, 114, 82, 114, 83, 115, 83, 115, 83, 115, 83, 115, 84, 116, 84, 116, 45, 45, 85, 117, 85, 117, 85, 117, 85, 117, 85, 117, 85, 117, 87, 119, 89, 121, 89, 90, 122, 90, 122, 90, 122, 45]⟩ : ByteArray) (wrap64 ((wrap64 (a0)) - 192))) = 45 then (some a0) else (some (wrap32 (bt (⟨#[65, 65, 65, 65, 65, 65, 45, 67, 69, 69, 69, 69, 73, 73, 73, 73, 45, 78, 79, 79, 79, 79, 79, 45, 45, 85, 85, 85, 85, 89, 45, 45, 97, 97, 97, 97, 97, 97, 45, 99, 101, 101, 101, 101, 105, 105, 105, 105, 45, 110, 111, 111, 111, 111, 111, 45, 45, 117, 117, 117, 117, 121, 45, 121, 65, 97, 65, 97, 65, 97, 67, 99, 67, 99, 67, 99, 67, 99, 68, 100, 45, 45, 69, 101, 69, 101, 69, 101, 69, 101, 69, 101, 71, 103, 71, 103, 71, 103, 71, 103, 72, 104, 45, 45, 73, 105, 73, 105, 73, 105, 73, 105, 45, 45, 45, 45, 74, 106, 75, 107, 45, 76, 108, 76, 108, 76, 108, 45, 45, 45, 45, 78, 110, 78, 110, 78, 110, 45, 45, 45, 79, 111, 79, 111, 79, 111, 45, 45, 82, 114, 82, 114, 82, 114, 83, 115, 83, 115, 83, 115, 83, 115, 84, 116, 84, 116, 45, 45, 85, 117, 85, 117, 85, 117, 85, 117, 85, 117, 85, 117, 87, 119, 89, 121, 89, 90, 122, 90, 122, 90, 122, 45]⟩ : ByteArray) (wrap64 ((wrap64 (a0)) - 192)))))) else (none)) else (none)))
set_option maxHeartbeats 8000000 in
set_option maxRecDepth 100000 in
theorem utf_Plain.calls (a0 : Int) (r : Int) (w : World) (h : utf_Plain.f a0 = some r) :
    Calls Try.prog 13 #[.int .i32 a0] w fun e w' => e = .returned (.int .i32 r) ∧ Drawn0 w w' := by
  have H : (if a0 < 192 then (some a0) else (if (wrap64 ((wrap64 (a0)) - 192)) ≥ 192 then (some a0) else (if 0 ≤ (wrap64 ((wrap64 (a0)) - 192)) then (if (wrap64 ((wrap64 (a0)) - 192)) < 192 then (if (bt (⟨#[65, 65, 65, 65, 65, 65, 45, 67, 69, 69, 69, 69, 73, 73, 73, 73, 45, 78, 79, 79, 79, 79, 79, 45, 45, 85, 85, 85, 85, 89, 45, 45, 97, 97, 97, 97, 97, 97, 45, 99, 101, 101, 101, 101, 105, 105, 105, 105, 45, 110, 111, 111, 111, 111, 111, 45, 45, 117, 117, 117, 117, 121, 45, 121, 65, 97, 65, 97, 65, 97, 67, 99, 67, 99, 67, 99, 67, 99, 68, 100, 45, 45, 69, 101, 69, 101, 69, 101, 69, 101, 69, 101, 71, 103, 71, 103, 71, 103, 71, 103, 72, 104, 45, 45, 73, 105, 73, 105, 73, 105, 73, 105, 45, 45, 45, 45, 74, 106, 75, 107, 45, 76, 108, 76, 108, 76, 108, 45, 45, 45, 45, 78, 110, 78, 110, 78, 110, 45, 45, 45, 79, 111, 79, 111, 79, 111, 45, 45, 82, 114, 82, 114, 82, 114, 83, 115, 83, 115, 83, 115, 83, 115, 84, 116, 84, 116, 45, 45, 85, 117, 85, 117, 85, 117, 85, 117, 85, 117, 85, 117, 87, 119, 89, 121, 89, 90, 122, 90, 122, 90, 122, 45]⟩ : ByteArray) (wrap64 ((wrap64 (a0)) - 192))) = 45 then (some a0) else (some (wrap32 (bt (⟨#[65, 65, 65, 65, 65, 65, 45, 67, 69, 69, 69, 69, 73, 73, 73, 73, 45, 78, 79, 79, 79, 79, 79, 45, 45, 85, 85, 85, 85, 89, 45, 45, 97, 97, 97, 97, 97, 97, 45, 99, 101, 101, 101, 101, 105, 105, 105, 105, 45, 110, 111, 111, 111, 111, 111, 45, 45, 117, 117, 117, 117, 121, 45, 121, 65, 97, 65, 97, 65, 97, 67, 99, 67, 99, 67, 99, 67, 99, 68, 100, 45, 45, 69, 101, 69, 101, 69, 101, 69, 101, 69, 101, 71, 103, 71, 103, 71, 103, 71, 103, 72, 104, 45, 45, 73, 105, 73, 105, 73, 105, 73, 105, 45, 45, 45, 45, 74, 106, 75, 107, 45, 76, 108, 76, 108, 76, 108, 45, 45, 45, 45, 78, 110, 78, 110, 78, 110, 45, 45, 45, 79, 111, 79, 111, 79, 111, 45, 45, 82, 114, 82, 114, 82, 114, 83, 115, 83, 115, 83, 115, 83, 115, 84, 116, 84, 116, 45, 45, 85, 117, 85, 117, 85, 117, 85, 117, 85, 117, 85, 117, 87, 119, 89, 121, 89, 90, 122, 90, 122, 90, 122, 45]⟩ : ByteArray) (wrap64 ((wrap64 (a0)) - 192)))))) else (none)) else (none)))) = some r := h
  clear h
  by_cases c2 : a0 < 192
  · rw [if_pos c2] at H
    have c2b0 : decide (a0 < 192) = true := decide_eq_true c2
    clear c2
    obtain rfl := Option.some.inj H
    go_enter Try.func13, Try.ntmps13
    go_wp2
    go_ret
    exact ⟨by first | rfl | (simp; done) | (simp [*]; done), by repeat (first | exact Drawn0.refl _ | apply Drawn0.step)⟩
  · rw [if_neg c2] at H
    have c2b0 : decide (a0 < 192) = false := decide_eq_false c2
    clear c2
    by_cases c3 : (wrap64 ((wrap64 (a0)) - 192)) ≥ 192
    · rw [if_pos c3] at H
      have c3b0 : decide (192 ≤ (wrap64 ((wrap64 (a0)) - 192))) = true := decide_eq_true c3
      clear c3
      obtain rfl := Option.some.inj H
      go_enter Try.func13, Try.ntmps13
      go_wp2
      go_ret
      exact ⟨by first | rfl | (simp; done) | (simp [*]; done), by repeat (first | exact Drawn0.refl _ | apply Drawn0.step)⟩
    · rw [if_neg c3] at H
      have c3b0 : decide (192 ≤ (wrap64 ((wrap64 (a0)) - 192))) = false := decide_eq_false c3
      clear c3
      obtain ⟨ji4, hji4⟩ : ∃ j_ : Int, (wrap64 ((wrap64 (a0)) - 192)) = j_ := ⟨_, rfl⟩
      replace H : (if 0 ≤ (ji4) then (if (ji4) < 192 then (if (bt (⟨#[65, 65, 65, 65, 65, 65, 45, 67, 69, 69, 69, 69, 73, 73, 73, 73, 45, 78, 79, 79, 79, 79, 79, 45, 45, 85, 85, 85, 85, 89, 45, 45, 97, 97, 97, 97, 97, 97, 45, 99, 101, 101, 101, 101, 105, 105, 105, 105, 45, 110, 111, 111, 111, 111, 111, 45, 45, 117, 117, 117, 117, 121, 45, 121, 65, 97, 65, 97, 65, 97, 67, 99, 67, 99, 67, 99, 67, 99, 68, 100, 45, 45, 69, 101, 69, 101, 69, 101, 69, 101, 69, 101, 71, 103, 71, 103, 71, 103, 71, 103, 72, 104, 45, 45, 73, 105, 73, 105, 73, 105, 73, 105, 45, 45, 45, 45, 74, 106, 75, 107, 45, 76, 108, 76, 108, 76, 108, 45, 45, 45, 45, 78, 110, 78, 110, 78, 110, 45, 45, 45, 79, 111, 79, 111, 79, 111, 45, 45, 82, 114, 82, 114, 82, 114, 83, 115, 83, 115, 83, 115, 83, 115, 84, 116, 84, 116, 45, 45, 85, 117, 85, 117, 85, 117, 85, 117, 85, 117, 85, 117, 87, 119, 89, 121, 89, 90, 122, 90, 122, 90, 122, 45]⟩ : ByteArray) (ji4)) = 45 then (some a0) else (some (wrap32 (bt (⟨#[65, 65, 65, 65, 65, 65, 45, 67, 69, 69, 69, 69, 73, 73, 73, 73, 45, 78, 79, 79, 79, 79, 79, 45, 45, 85, 85, 85, 85, 89, 45, 45, 97, 97, 97, 97, 97, 97, 45, 99, 101, 101, 101, 101, 105, 105, 105, 105, 45, 110, 111, 111, 111, 111, 111, 45, 45, 117, 117, 117, 117, 121, 45, 121, 65, 97, 65, 97, 65, 97, 67, 99, 67, 99, 67, 99, 67, 99, 68, 100, 45, 45, 69, 101, 69, 101, 69, 101, 69, 101, 69, 101, 71, 103, 71, 103, 71, 103, 71, 103, 72, 104, 45, 45, 73, 105, 73, 105, 73, 105, 73, 105, 45, 45, 45, 45, 74, 106, 75, 107, 45, 76, 108, 76, 108, 76, 108, 45, 45, 45, 45, 78, 110, 78, 110, 78, 110, 45, 45, 45, 79, 111, 79, 111, 79, 111, 45, 45, 82, 114, 82, 114, 82, 114, 83, 115, 83, 115, 83, 115, 83, 115, 84, 116, 84, 116, 45, 45, 85, 117, 85, 117, 85, 117, 85, 117, 85, 117, 85, 117, 87, 119, 89, 121, 89, 90, 122, 90, 122, 90, 122, 45]⟩ : ByteArray) (ji4))))) else (none)) else (none)) = some r := by first | (rw [hji4] at H; exact H) | (simp only [hji4] at H ⊢; exact H)
      (try rw [hji4] at c3b0)
      have hji4w : (IntKind.i64.wrap ((wrap64 (a0)) - 192)) = ji4 := (i64_w _).trans hji4
      by_cases c5 : 0 ≤ (ji4)
      · rw [if_pos c5] at H
        have c5b0 : decide (0 ≤ (ji4)) = true := decide_eq_true c5
        clear c5
        by_cases c6 : (ji4) < 192
        · rw [if_pos c6] at H
          have c6b0 : decide ((ji4) < 192) = true := decide_eq_true c6
          clear c6
          by_cases c8 : (bt (⟨#[65, 65, 65, 65, 65, 65, 45, 67, 69, 69, 69, 69, 73, 73, 73, 73, 45, 78, 79, 79, 79, 79, 79, 45, 45, 85, 85, 85, 85, 89, 45, 45, 97, 97, 97, 97, 97, 97, 45, 99, 101, 101, 101, 101, 105, 105, 105, 105, 45, 110, 111, 111, 111, 111, 111, 45, 45, 117, 117, 117, 117, 121, 45, 121, 65, 97, 65, 97, 65, 97, 67, 99, 67, 99, 67, 99, 67, 99, 68, 100, 45, 45, 69, 101, 69, 101, 69, 101, 69, 101, 69, 101, 71, 103, 71, 103, 71, 103, 71, 103, 72, 104, 45, 45, 73, 105, 73, 105, 73, 105, 73, 105, 45, 45, 45, 45, 74, 106, 75, 107, 45, 76, 108, 76, 108, 76, 108, 45, 45, 45, 45, 78, 110, 78, 110, 78, 110, 45, 45, 45, 79, 111, 79, 111, 79, 111, 45, 45, 82, 114, 82, 114, 82, 114, 83, 115, 83, 115, 83, 115, 83, 115, 84, 116, 84, 116, 45, 45, 85, 117, 85, 117, 85, 117, 85, 117, 85, 117, 85, 117, 87, 119, 89, 121, 89, 90, 122, 90, 122, 90, 122, 45]⟩ : ByteArray) (ji4)) = 45
          · rw [if_pos c8] at H
            have c8b0 : ((bt (⟨#[65, 65, 65, 65, 65, 65, 45, 67, 69, 69, 69, 69, 73, 73, 73, 73, 45, 78, 79, 79, 79, 79, 79, 45, 45, 85, 85, 85, 85, 89, 45, 45, 97, 97, 97, 97, 97, 97, 45, 99, 101, 101, 101, 101, 105, 105, 105, 105, 45, 110, 111, 111, 111, 111, 111, 45, 45, 117, 117, 117, 117, 121, 45, 121, 65, 97, 65, 97, 65, 97, 67, 99, 67, 99, 67, 99, 67, 99, 68, 100, 45, 45, 69, 101, 69, 101, 69, 101, 69, 101, 69, 101, 71, 103, 71, 103, 71, 103, 71, 103, 72, 104, 45, 45, 73, 105, 73, 105, 73, 105, 73, 105, 45, 45, 45, 45, 74, 106, 75, 107, 45, 76, 108, 76, 108, 76, 108, 45, 45, 45, 45, 78, 110, 78, 110, 78, 110, 45, 45, 45, 79, 111, 79, 111, 79, 111, 45, 45, 82, 114, 82, 114, 82, 114, 83, 115, 83, 115, 83, 115, 83, 115, 84, 116, 84, 116, 45, 45, 85, 117, 85, 117, 85, 117, 85, 117, 85, 117, 85, 117, 87, 119, 89, 121, 89, 90, 122, 90, 122, 90, 122, 45]⟩ : ByteArray) (ji4)) == 45) = true := beq_iff_eq.mpr c8
            have c8b1 : ((bt (⟨#[65, 65, 65, 65, 65, 65, 45, 67, 69, 69, 69, 69, 73, 73, 73, 73, 45, 78, 79, 79, 79, 79, 79, 45, 45, 85, 85, 85, 85, 89, 45, 45, 97, 97, 97, 97, 97, 97, 45, 99, 101, 101, 101, 101, 105, 105, 105, 105, 45, 110, 111, 111, 111, 111, 111, 45, 45, 117, 117, 117, 117, 121, 45, 121, 65, 97, 65, 97, 65, 97, 67, 99, 67, 99, 67, 99, 67, 99, 68, 100, 45, 45, 69, 101, 69, 101, 69, 101, 69, 101, 69, 101, 71, 103, 71, 103, 71, 103, 71, 103, 72, 104, 45, 45, 73, 105, 73, 105, 73, 105, 73, 105, 45, 45, 45, 45, 74, 106, 75, 107, 45, 76, 108, 76, 108, 76, 108, 45, 45, 45, 45, 78, 110, 78, 110, 78, 110, 45, 45, 45, 79, 111, 79, 111, 79, 111, 45, 45, 82, 114, 82, 114, 82, 114, 83, 115, 83, 115, 83, 115, 83, 115, 84, 116, 84, 116, 45, 45, 85, 117, 85, 117, 85, 117, 85, 117, 85, 117, 85, 117, 87, 119, 89, 121, 89, 90, 122, 90, 122, 90, 122, 45]⟩ : ByteArray) (ji4)) != 45) = false := bne_eq_false_iff_eq.mpr c8
            clear c8
            obtain rfl := Option.some.inj H
            have p7 : 0 ≤ ((ji4) : Int) := of_decide_eq_true (by first | (with_reducible assumption) | assumption)
            have q7 : (ji4) < (192 : Int) := of_decide_eq_true (by first | (with_reducible assumption) | assumption)
            have hx7 := bt_at (⟨#[65, 65, 65, 65, 65, 65, 45, 67, 69, 69, 69, 69, 73, 73, 73, 73, 45, 78, 79, 79, 79, 79, 79, 45, 45, 85, 85, 85, 85, 89, 45, 45, 97, 97, 97, 97, 97, 97, 45, 99, 101, 101, 101, 101, 105, 105, 105, 105, 45, 110, 111, 111, 111, 111, 111, 45, 45, 117, 117, 117, 117, 121, 45, 121, 65, 97, 65, 97, 65, 97, 67, 99, 67, 99, 67, 99, 67, 99, 68, 100, 45, 45, 69, 101, 69, 101, 69, 101, 69, 101, 69, 101, 71, 103, 71, 103, 71, 103, 71, 103, 72, 104, 45, 45, 73, 105, 73, 105, 73, 105, 73, 105, 45, 45, 45, 45, 74, 106, 75, 107, 45, 76, 108, 76, 108, 76, 108, 45, 45, 45, 45, 78, 110, 78, 110, 78, 110, 45, 45, 45, 79, 111, 79, 111, 79, 111, 45, 45, 82, 114, 82, 114, 82, 114, 83, 115, 83, 115, 83, 115, 83, 115, 84, 116, 84, 116, 45, 45, 85, 117, 85, 117, 85, 117, 85, 117, 85, 117, 85, 117, 87, 119, 89, 121, 89, 90, 122, 90, 122, 90, 122, 45]⟩ : ByteArray) (ji4)
            replace p7 := eq_true p7
            replace q7 := eq_true q7
            go_enter Try.func13, Try.ntmps13
            go_wp2
            go_ret
            exact ⟨by first | rfl | (simp; done) | (simp only [← hji4] <;> (first | rfl | simp)) | (simp [*]; done), by repeat (first | exact Drawn0.refl _ | apply Drawn0.step)⟩
          · rw [if_neg c8] at H
            have c8b0 : ((bt (⟨#[65, 65, 65, 65, 65, 65, 45, 67, 69, 69, 69, 69, 73, 73, 73, 73, 45, 78, 79, 79, 79, 79, 79, 45, 45, 85, 85, 85, 85, 89, 45, 45, 97, 97, 97, 97, 97, 97, 45, 99, 101, 101, 101, 101, 105, 105, 105, 105, 45, 110, 111, 111, 111, 111, 111, 45, 45, 117, 117, 117, 117, 121, 45, 121, 65, 97, 65, 97, 65, 97, 67, 99, 67, 99, 67, 99, 67, 99, 68, 100, 45, 45, 69, 101, 69, 101, 69, 101, 69, 101, 69, 101, 71, 103, 71, 103, 71, 103, 71, 103, 72, 104, 45, 45, 73, 105, 73, 105, 73, 105, 73, 105, 45, 45, 45, 45, 74, 106, 75, 107, 45, 76, 108, 76, 108, 76, 108, 45, 45, 45, 45, 78, 110, 78, 110, 78, 110, 45, 45, 45, 79, 111, 79, 111, 79, 111, 45, 45, 82, 114, 82, 114, 82, 114, 83, 115, 83, 115, 83, 115, 83, 115, 84, 116, 84, 116, 45, 45, 85, 117, 85, 117, 85, 117, 85, 117, 85, 117, 85, 117, 87, 119, 89, 121, 89, 90, 122, 90, 122, 90, 122, 45]⟩ : ByteArray) (ji4)) == 45) = false := beq_eq_false_iff_ne.mpr c8
            have c8b1 : ((bt (⟨#[65, 65, 65, 65, 65, 65, 45, 67, 69, 69, 69, 69, 73, 73, 73, 73, 45, 78, 79, 79, 79, 79, 79, 45, 45, 85, 85, 85, 85, 89, 45, 45, 97, 97, 97, 97, 97, 97, 45, 99, 101, 101, 101, 101, 105, 105, 105, 105, 45, 110, 111, 111, 111, 111, 111, 45, 45, 117, 117, 117, 117, 121, 45, 121, 65, 97, 65, 97, 65, 97, 67, 99, 67, 99, 67, 99, 67, 99, 68, 100, 45, 45, 69, 101, 69, 101, 69, 101, 69, 101, 69, 101, 71, 103, 71, 103, 71, 103, 71, 103, 72, 104, 45, 45, 73, 105, 73, 105, 73, 105, 73, 105, 45, 45, 45, 45, 74, 106, 75, 107, 45, 76, 108, 76, 108, 76, 108, 45, 45, 45, 45, 78, 110, 78, 110, 78, 110, 45, 45, 45, 79, 111, 79, 111, 79, 111, 45, 45, 82, 114, 82, 114, 82, 114, 83, 115, 83, 115, 83, 115, 83, 115, 84, 116, 84, 116, 45, 45, 85, 117, 85, 117, 85, 117, 85, 117, 85, 117, 85, 117, 87, 119, 89, 121, 89, 90, 122, 90, 122, 90, 122, 45]⟩ : ByteArray) (ji4)) != 45) = true := bne_iff_ne.mpr c8
            obtain rfl := Option.some.inj H
            have p7 : 0 ≤ ((ji4) : Int) := of_decide_eq_true (by first | (with_reducible assumption) | assumption)
            have q7 : (ji4) < (192 : Int) := of_decide_eq_true (by first | (with_reducible assumption) | assumption)
            have hx7 := bt_at (⟨#[65, 65, 65, 65, 65, 65, 45, 67, 69, 69, 69, 69, 73, 73, 73, 73, 45, 78, 79, 79, 79, 79, 79, 45, 45, 85, 85, 85, 85, 89, 45, 45, 97, 97, 97, 97, 97, 97, 45, 99, 101, 101, 101, 101, 105, 105, 105, 105, 45, 110, 111, 111, 111, 111, 111, 45, 45, 117, 117, 117, 117, 121, 45, 121, 65, 97, 65, 97, 65, 97, 67, 99, 67, 99, 67, 99, 67, 99, 68, 100, 45, 45, 69, 101, 69, 101, 69, 101, 69, 101, 69, 101, 71, 103, 71, 103, 71, 103, 71, 103, 72, 104, 45, 45, 73, 105, 73, 105, 73, 105, 73, 105, 45, 45, 45, 45, 74, 106, 75, 107, 45, 76, 108, 76, 108, 76, 108, 45, 45, 45, 45, 78, 110, 78, 110, 78, 110, 45, 45, 45, 79, 111, 79, 111, 79, 111, 45, 45, 82, 114, 82, 114, 82, 114, 83, 115, 83, 115, 83, 115, 83, 115, 84, 116, 84, 116, 45, 45, 85, 117, 85, 117, 85, 117, 85, 117, 85, 117, 85, 117, 87, 119, 89, 121, 89, 90, 122, 90, 122, 90, 122, 45]⟩ : ByteArray) (ji4)
            replace p7 := eq_true p7
            replace q7 := eq_true q7
            have p9 : 0 ≤ ((ji4) : Int) := of_decide_eq_true (by first | (with_reducible assumption) | assumption)
            have q9 : (ji4) < (192 : Int) := of_decide_eq_true (by first | (with_reducible assumption) | assumption)
            have hx9 := bt_at (⟨#[65, 65, 65, 65, 65, 65, 45, 67, 69, 69, 69, 69, 73, 73, 73, 73, 45, 78, 79, 79, 79, 79, 79, 45, 45, 85, 85, 85, 85, 89, 45, 45, 97, 97, 97, 97, 97, 97, 45, 99, 101, 101, 101, 101, 105, 105, 105, 105, 45, 110, 111, 111, 111, 111, 111, 45, 45, 117, 117, 117, 117, 121, 45, 121, 65, 97, 65, 97, 65, 97, 67, 99, 67, 99, 67, 99, 67, 99, 68, 100, 45, 45, 69, 101, 69, 101, 69, 101, 69, 101, 69, 101, 71, 103, 71, 103, 71, 103, 71, 103, 72, 104, 45, 45, 73, 105, 73, 105, 73, 105, 73, 105, 45, 45, 45, 45, 74, 106, 75, 107, 45, 76, 108, 76, 108, 76, 108, 45, 45, 45, 45, 78, 110, 78, 110, 78, 110, 45, 45, 45, 79, 111, 79, 111, 79, 111, 45, 45, 82, 114, 82, 114, 82, 114, 83, 115, 83, 115, 83, 115, 83, 115, 84, 116, 84, 116, 45, 45, 85, 117, 85, 117, 85, 117, 85, 117, 85, 117, 85, 117, 87, 119, 89, 121, 89, 90, 122, 90, 122, 90, 122, 45]⟩ : ByteArray) (ji4)
            replace p9 := eq_true p9
            replace q9 := eq_true q9
            go_enter Try.func13, Try.ntmps13
            go_wp2
            go_ret
            exact ⟨by first | rfl | (simp; done) | (simp only [← hji4] <;> (first | rfl | simp)) | (simp [*]; done), by repeat (first | exact Drawn0.refl _ | apply Drawn0.step)⟩
        · rw [if_neg c6] at H
          exact absurd H (by simp)
      · rw [if_neg c5] at H
        exact absurd H (by simp)

/-! ### catchwordlaw02_head: function 11 -/
def catchwordlaw02_head.f (k : Nat)  : Option (Bool) := (utf_Low.f k 201).bind fun t101 => (if t101 = 233 then ((utf_Plain.f 233).bind fun t102 => (some (t102 == 101))) else (some false))
theorem catchwordlaw02_head.mono : ∀ k, LeO (catchwordlaw02_head.f k ) (catchwordlaw02_head.f (k + 1) ) := by
  intro  k
  unfold catchwordlaw02_head.f
  repeat' first
      | (with_reducible exact utf_Low.mono _ _)
      | (with_reducible exact LeO.refl _)
      | (with_reducible exact LeO.none _)
      | (with_reducible refine LeO.ite ?_ ?_)
      | (with_reducible refine LeO.bind ?_ (fun _ => ?_))
      | exact utf_Low.mono _ _
      | exact LeO.none _
      | refine LeO.ite ?_ ?_
      | refine LeO.bind ?_ (fun _ => ?_)
set_option maxHeartbeats 8000000 in
set_option maxRecDepth 100000 in
theorem catchwordlaw02_head.calls (k : Nat)  (r : Bool) (w : World) (h : catchwordlaw02_head.f k  = some r) :
    Calls Try.prog 11 #[] w fun e w' => e = .returned (.bool r) ∧ Drawn0 w w' := by
  have H : ((utf_Low.f k 201).bind fun t101 => (if t101 = 233 then ((utf_Plain.f 233).bind fun t102 => (some (t102 == 101))) else (some false))) = some r := h
  clear h
  replace H := Option.bind_eq_some_iff.mp H
  obtain ⟨t101, A10, H⟩ := H
  replace H : (if t101 = 233 then ((utf_Plain.f 233).bind fun t102 => (some (t102 == 101))) else (some false)) = some r := H
  have A1 := Aside0.mk A10
  clear A10
  by_cases c2 : t101 = 233
  · rw [if_pos c2] at H
    have c2b0 : (t101 == 233) = true := beq_iff_eq.mpr c2
    have c2b1 : (t101 != 233) = false := bne_eq_false_iff_eq.mpr c2
    clear c2
    replace H := Option.bind_eq_some_iff.mp H
    obtain ⟨t102, A30, H⟩ := H
    replace H : (some (t102 == 101)) = some r := H
    have A3 := Aside0.mk A30
    clear A30
    obtain rfl := Option.some.inj H
    go_enter Try.func11, Try.ntmps11
    go_wp2_with (first | ((with_reducible refine gate_callee (f := 12) rfl ?_); refine goesL_ (some 1) rfl rfl Try.func12 (by kernel_rfl) rfl #[.int .i32 201] rfl (by (try simp only [List.map_toArray, List.map_cons, List.map_nil]); first | done | rfl | (simp only [List.length_drop, List.length_take]; rfl)) ?_; (with_reducible refine (utf_Low.calls k 201 t101 _ A1.out).mono ?_); rintro e w' ⟨rfl, ⟨nd, rfl⟩⟩; refine ⟨_, rfl, ?_⟩) | (go_at_call 13; (with_reducible refine (utf_Plain.calls 233 t102 _ A3.out).mono ?_); rintro e w' ⟨rfl, ⟨nd, rfl⟩⟩))
    go_ret
    exact ⟨by first | rfl | (simp; done) | (simp [*]; done), by repeat (first | exact Drawn0.refl _ | apply Drawn0.step)⟩
  · rw [if_neg c2] at H
    have c2b0 : (t101 == 233) = false := beq_eq_false_iff_ne.mpr c2
    have c2b1 : (t101 != 233) = true := bne_iff_ne.mpr c2
    obtain rfl := Option.some.inj H
    go_enter Try.func11, Try.ntmps11
    go_wp2_with (first | ((with_reducible refine gate_callee (f := 12) rfl ?_); refine goesL_ (some 1) rfl rfl Try.func12 (by kernel_rfl) rfl #[.int .i32 201] rfl (by (try simp only [List.map_toArray, List.map_cons, List.map_nil]); first | done | rfl | (simp only [List.length_drop, List.length_take]; rfl)) ?_; (with_reducible refine (utf_Low.calls k 201 t101 _ A1.out).mono ?_); rintro e w' ⟨rfl, ⟨nd, rfl⟩⟩; refine ⟨_, rfl, ?_⟩))
    go_ret
    exact ⟨by first | rfl | (simp; done) | (simp [*]; done), by repeat (first | exact Drawn0.refl _ | apply Drawn0.step)⟩

end Go.Proofs.Ytkhhmjikohonfaa.PUtfPlains
