-- Written by a program of this session for the claim (a changed use of the kit's printer; not the printer's own print).
import Derived.Test.YtkhhmjikohonfaaPUtfLowsx0
import Derived.Test.YtkhhmjikohonfaaPUtfLowsx1
namespace Go.Proofs.Ytkhhmjikohonfaa.PUtfLows
open Go.RowKit Go.Proofs.YtkhhmjikohonfaaW.PrintWords Go.Proofs.YtkhhmjikohonfaaW.PrintLast Go.Proofs.YtkhhmjikohonfaaW.PrintMore
attribute [local go_sem] max2_int min2_int max_two min_two max_three min_three max_four min_four   -- for this text's walks alone
set_option linter.unusedVariables false
set_option linter.unusedSimpArgs false

/-! ### catchwordlaw02_UtfLows: function 3 -/
def catchwordlaw02_UtfLows.j0 : Nat → Int → Int → Int → Bool → Option (Bool)
  | 0, _, _, _, _ => none
  | k + 1, x0, x3, x4, x14 => if x14 = true then (some (x3 == (wrap32 (x0 + 32)))) else (if x0 = 376 then (some (x3 == 255)) else (if x0 ≥ 256 then (if x0 ≤ 311 then (if x0 = 304 then (if x0 ≥ 330 then (if x0 ≤ 375 then (if (Int.tmod x0 2) = 0 then (some (x3 == (wrap32 (x0 + 1)))) else (if x0 ≥ 313 then (if x0 ≤ 328 then (if (Int.tmod x0 2) = 1 then (some (x3 == (wrap32 (x0 + 1)))) else (if x0 ≥ 377 then (if x0 ≤ 382 then (some (x3 == x4)) else (some (x3 == x4))) else (some (x3 == x4)))) else (if x0 ≥ 377 then (if x0 ≤ 382 then (if (Int.tmod x0 2) = 1 then (some (x3 == (wrap32 (x0 + 1)))) else (some (x3 == x4))) else (some (x3 == x4))) else (some (x3 == x4)))) else (if x0 ≥ 377 then (if x0 ≤ 382 then (if (Int.tmod x0 2) = 1 then (some (x3 == (wrap32 (x0 + 1)))) else (some (x3 == x4))) else (some (x3 == x4))) else (some (x3 == x4))))) else (if x0 ≥ 313 then (if x0 ≤ 328 then (if (Int.tmod x0 2) = 1 then (some (x3 == (wrap32 (x0 + 1)))) else (if x0 ≥ 377 then (if x0 ≤ 382 then (some (x3 == x4)) else (some (x3 == x4))) else (some (x3 == x4)))) else (if x0 ≥ 377 then (if x0 ≤ 382 then (if (Int.tmod x0 2) = 1 then (some (x3 == (wrap32 (x0 + 1)))) else (some (x3 == x4))) else (some (x3 == x4))) else (some (x3 == x4)))) else (if x0 ≥ 377 then (if x0 ≤ 382 then (if (Int.tmod x0 2) = 1 then (some (x3 == (wrap32 (x0 + 1)))) else (some (x3 == x4))) else (some (x3 == x4))) else (some (x3 == x4))))) else (if x0 ≥ 313 then (if x0 ≤ 328 then (if (Int.tmod x0 2) = 1 then (some (x3 == (wrap32 (x0 + 1)))) else (if x0 ≥ 377 then (if x0 ≤ 382 then (some (x3 == x4)) else (some (x3 == x4))) else (some (x3 == x4)))) else (if x0 ≥ 377 then (if x0 ≤ 382 then (if (Int.tmod x0 2) = 1 then (some (x3 == (wrap32 (x0 + 1)))) else (some (x3 == x4))) else (some (x3 == x4))) else (some (x3 == x4)))) else (if x0 ≥ 377 then (if x0 ≤ 382 then (if (Int.tmod x0 2) = 1 then (some (x3 == (wrap32 (x0 + 1)))) else (some (x3 == x4))) else (some (x3 == x4))) else (some (x3 == x4))))) else (if (Int.tmod x0 2) = 0 then (some (x3 == (wrap32 (x0 + 1)))) else (if x0 ≥ 330 then (if x0 ≤ 375 then (if x0 ≥ 313 then (if x0 ≤ 328 then (if (Int.tmod x0 2) = 1 then (some (x3 == (wrap32 (x0 + 1)))) else (if x0 ≥ 377 then (if x0 ≤ 382 then (some (x3 == x4)) else (some (x3 == x4))) else (some (x3 == x4)))) else (if x0 ≥ 377 then (if x0 ≤ 382 then (if (Int.tmod x0 2) = 1 then (some (x3 == (wrap32 (x0 + 1)))) else (some (x3 == x4))) else (some (x3 == x4))) else (some (x3 == x4)))) else (if x0 ≥ 377 then (if x0 ≤ 382 then (if (Int.tmod x0 2) = 1 then (some (x3 == (wrap32 (x0 + 1)))) else (some (x3 == x4))) else (some (x3 == x4))) else (some (x3 == x4)))) else (if x0 ≥ 313 then (if x0 ≤ 328 then (if (Int.tmod x0 2) = 1 then (some (x3 == (wrap32 (x0 + 1)))) else (if x0 ≥ 377 then (if x0 ≤ 382 then (some (x3 == x4)) else (some (x3 == x4))) else (some (x3 == x4)))) else (if x0 ≥ 377 then (if x0 ≤ 382 then (if (Int.tmod x0 2) = 1 then (some (x3 == (wrap32 (x0 + 1)))) else (some (x3 == x4))) else (some (x3 == x4))) else (some (x3 == x4)))) else (if x0 ≥ 377 then (if x0 ≤ 382 then (if (Int.tmod x0 2) = 1 then (some (x3 == (wrap32 (x0 + 1)))) else (some (x3 == x4))) else (some (x3 == x4))) else (some (x3 == x4))))) else (if x0 ≥ 313 then (if x0 ≤ 328 then (if (Int.tmod x0 2) = 1 then (some (x3 == (wrap32 (x0 + 1)))) else (if x0 ≥ 377 then (if x0 ≤ 382 then (some (x3 == x4)) else (some (x3 == x4))) else (some (x3 == x4)))) else (if x0 ≥ 377 then (if x0 ≤ 382 then (if (Int.tmod x0 2) = 1 then (some (x3 == (wrap32 (x0 + 1)))) else (some (x3 == x4))) else (some (x3 == x4))) else (some (x3 == x4)))) else (if x0 ≥ 377 then (if x0 ≤ 382 then (if (Int.tmod x0 2) = 1 then (some (x3 == (wrap32 (x0 + 1)))) else (some (x3 == x4))) else (some (x3 == x4))) else (some (x3 == x4))))))) else (if x0 ≥ 330 then (if x0 ≤ 375 then (if (Int.tmod x0 2) = 0 then (some (x3 == (wrap32 (x0 + 1)))) else (if x0 ≥ 313 then (if x0 ≤ 328 then (if (Int.tmod x0 2) = 1 then (some (x3 == (wrap32 (x0 + 1)))) else (if x0 ≥ 377 then (if x0 ≤ 382 then (some (x3 == x4)) else (some (x3 == x4))) else (some (x3 == x4)))) else (if x0 ≥ 377 then (if x0 ≤ 382 then (if (Int.tmod x0 2) = 1 then (some (x3 == (wrap32 (x0 + 1)))) else (some (x3 == x4))) else (some (x3 == x4))) else (some (x3 == x4)))) else (if x0 ≥ 377 then (if x0 ≤ 382 then (if (Int.tmod x0 2) = 1 then (some (x3 == (wrap32 (x0 + 1)))) else (some (x3 == x4))) else (some (x3 == x4))) else (some (x3 == x4))))) else (if x0 ≥ 313 then (if x0 ≤ 328 then (if (Int.tmod x0 2) = 1 then (some (x3 == (wrap32 (x0 + 1)))) else (if x0 ≥ 377 then (if x0 ≤ 382 then (some (x3 == x4)) else (some (x3 == x4))) else (some (x3 == x4)))) else (if x0 ≥ 377 then (if x0 ≤ 382 then (if (Int.tmod x0 2) = 1 then (some (x3 == (wrap32 (x0 + 1)))) else (some (x3 == x4))) else (some (x3 == x4))) else (some (x3 == x4)))) else (if x0 ≥ 377 then (if x0 ≤ 382 then (if (Int.tmod x0 2) = 1 then (some (x3 == (wrap32 (x0 + 1)))) else (some (x3 == x4))) else (some (x3 == x4))) else (some (x3 == x4))))) else (if x0 ≥ 313 then (if x0 ≤ 328 then (if (Int.tmod x0 2) = 1 then (some (x3 == (wrap32 (x0 + 1)))) else (if x0 ≥ 377 then (if x0 ≤ 382 then (some (x3 == x4)) else (some (x3 == x4))) else (some (x3 == x4)))) else (if x0 ≥ 377 then (if x0 ≤ 382 then (if (Int.tmod x0 2) = 1 then (some (x3 == (wrap32 (x0 + 1)))) else (some (x3 == x4))) else (some (x3 == x4))) else (some (x3 == x4)))) else (if x0 ≥ 377 then (if x0 ≤ 382 then (if (Int.tmod x0 2) = 1 then (some (x3 == (wrap32 (x0 + 1)))) else (some (x3 == x4))) else (some (x3 == x4))) else (some (x3 == x4)))))) else (if x0 ≥ 330 then (if x0 ≤ 375 then (if (Int.tmod x0 2) = 0 then (some (x3 == (wrap32 (x0 + 1)))) else (if x0 ≥ 313 then (if x0 ≤ 328 then (if (Int.tmod x0 2) = 1 then (some (x3 == (wrap32 (x0 + 1)))) else (if x0 ≥ 377 then (if x0 ≤ 382 then (some (x3 == x4)) else (some (x3 == x4))) else (some (x3 == x4)))) else (if x0 ≥ 377 then (if x0 ≤ 382 then (if (Int.tmod x0 2) = 1 then (some (x3 == (wrap32 (x0 + 1)))) else (some (x3 == x4))) else (some (x3 == x4))) else (some (x3 == x4)))) else (if x0 ≥ 377 then (if x0 ≤ 382 then (if (Int.tmod x0 2) = 1 then (some (x3 == (wrap32 (x0 + 1)))) else (some (x3 == x4))) else (some (x3 == x4))) else (some (x3 == x4))))) else (if x0 ≥ 313 then (if x0 ≤ 328 then (if (Int.tmod x0 2) = 1 then (some (x3 == (wrap32 (x0 + 1)))) else (if x0 ≥ 377 then (if x0 ≤ 382 then (some (x3 == x4)) else (some (x3 == x4))) else (some (x3 == x4)))) else (if x0 ≥ 377 then (if x0 ≤ 382 then (if (Int.tmod x0 2) = 1 then (some (x3 == (wrap32 (x0 + 1)))) else (some (x3 == x4))) else (some (x3 == x4))) else (some (x3 == x4)))) else (if x0 ≥ 377 then (if x0 ≤ 382 then (if (Int.tmod x0 2) = 1 then (some (x3 == (wrap32 (x0 + 1)))) else (some (x3 == x4))) else (some (x3 == x4))) else (some (x3 == x4))))) else (if x0 ≥ 313 then (if x0 ≤ 328 then (if (Int.tmod x0 2) = 1 then (some (x3 == (wrap32 (x0 + 1)))) else (if x0 ≥ 377 then (if x0 ≤ 382 then (some (x3 == x4)) else (some (x3 == x4))) else (some (x3 == x4)))) else (if x0 ≥ 377 then (if x0 ≤ 382 then (if (Int.tmod x0 2) = 1 then (some (x3 == (wrap32 (x0 + 1)))) else (some (x3 == x4))) else (some (x3 == x4))) else (some (x3 == x4)))) else (if x0 ≥ 377 then (if x0 ≤ 382 then (if (Int.tmod x0 2) = 1 then (some (x3 == (wrap32 (x0 + 1)))) else (some (x3 == x4))) else (some (x3 == x4))) else (some (x3 == x4)))))))
def catchwordlaw02_UtfLows.f (k : Nat) (a0 : Int) : Option (Bool) := (catchwordlaw02_head.f k).bind fun t103 => (if t103 = true then ((utf_Low.f k a0).bind fun t104 => ((utf_Low.f k t104).bind fun t105 => (if t105 = t104 then (if a0 ≥ 65 then (if a0 ≤ 90 then (catchwordlaw02_UtfLows.j0 k a0 t104 a0 true) else (if a0 ≥ 192 then (if a0 ≤ 222 then (catchwordlaw02_UtfLows.j0 k a0 t104 a0 (a0 != 215)) else (catchwordlaw02_UtfLows.j0 k a0 t104 a0 false)) else (catchwordlaw02_UtfLows.j0 k a0 t104 a0 false))) else (if a0 ≥ 192 then (if a0 ≤ 222 then (catchwordlaw02_UtfLows.j0 k a0 t104 a0 (a0 != 215)) else (catchwordlaw02_UtfLows.j0 k a0 t104 a0 false)) else (catchwordlaw02_UtfLows.j0 k a0 t104 a0 false))) else (some false)))) else (some false))
theorem catchwordlaw02_UtfLows.mono_l : ∀ k, (∀ y0 y1 y2 y3, LeO (catchwordlaw02_UtfLows.j0 k y0 y1 y2 y3) (catchwordlaw02_UtfLows.j0 (k + 1) y0 y1 y2 y3))
  | 0 => fun _ _ _ _ r h => by simp [catchwordlaw02_UtfLows.j0] at h
  | k + 1 => by
    have ih0 := catchwordlaw02_UtfLows.mono_l k
    · intro y0 y1 y2 y3
      unfold catchwordlaw02_UtfLows.j0
      repeat' first
      | (with_reducible exact ih0 _ _ _ _)
      | (with_reducible exact catchwordlaw02_head.mono _)
      | (with_reducible exact utf_Low.mono _ _)
      | (with_reducible exact LeO.refl _)
      | (with_reducible exact LeO.none _)
      | (with_reducible refine LeO.ite ?_ ?_)
      | (with_reducible refine LeO.bind ?_ (fun _ => ?_))
      | exact ih0 _ _ _ _
      | exact catchwordlaw02_head.mono _
      | exact utf_Low.mono _ _
      | exact LeO.none _
      | refine LeO.ite ?_ ?_
      | refine LeO.bind ?_ (fun _ => ?_)
theorem catchwordlaw02_UtfLows.mono : ∀ a0 k, LeO (catchwordlaw02_UtfLows.f k a0) (catchwordlaw02_UtfLows.f (k + 1) a0) := by
  intro a0 k
  have ih0 := catchwordlaw02_UtfLows.mono_l k
  unfold catchwordlaw02_UtfLows.f
  repeat' first
      | (with_reducible exact ih0 _ _ _ _)
      | (with_reducible exact catchwordlaw02_head.mono _)
      | (with_reducible exact utf_Low.mono _ _)
      | (with_reducible exact LeO.refl _)
      | (with_reducible exact LeO.none _)
      | (with_reducible refine LeO.ite ?_ ?_)
      | (with_reducible refine LeO.bind ?_ (fun _ => ?_))
      | exact ih0 _ _ _ _
      | exact catchwordlaw02_head.mono _
      | exact utf_Low.mono _ _
      | exact LeO.none _
      | refine LeO.ite ?_ ?_
      | refine LeO.bind ?_ (fun _ => ?_)
set_option maxHeartbeats 8000000 in
set_option maxRecDepth 100000 in
theorem catchwordlaw02_UtfLows.calls (k : Nat) (a0 : Int) (r : Bool) (w : World) (h : catchwordlaw02_UtfLows.f k a0 = some r) :
    Calls Try.prog 3 #[.int .i32 a0] w fun e w' => e = .returned (.bool r) ∧ Drawn0 w w' := by
  have H : ((catchwordlaw02_head.f k).bind fun t103 => (if t103 = true then ((utf_Low.f k a0).bind fun t104 => ((utf_Low.f k t104).bind fun t105 => (if t105 = t104 then (if a0 ≥ 65 then (if a0 ≤ 90 then (catchwordlaw02_UtfLows.j0 k a0 t104 a0 true) else (if a0 ≥ 192 then (if a0 ≤ 222 then (catchwordlaw02_UtfLows.j0 k a0 t104 a0 (a0 != 215)) else (catchwordlaw02_UtfLows.j0 k a0 t104 a0 false)) else (catchwordlaw02_UtfLows.j0 k a0 t104 a0 false))) else (if a0 ≥ 192 then (if a0 ≤ 222 then (catchwordlaw02_UtfLows.j0 k a0 t104 a0 (a0 != 215)) else (catchwordlaw02_UtfLows.j0 k a0 t104 a0 false)) else (catchwordlaw02_UtfLows.j0 k a0 t104 a0 false))) else (some false)))) else (some false))) = some r := h
  clear h
  replace H := Option.bind_eq_some_iff.mp H
  obtain ⟨t103, A20, H⟩ := H
  replace H : (if t103 = true then ((utf_Low.f k a0).bind fun t104 => ((utf_Low.f k t104).bind fun t105 => (if t105 = t104 then (if a0 ≥ 65 then (if a0 ≤ 90 then (catchwordlaw02_UtfLows.j0 k a0 t104 a0 true) else (if a0 ≥ 192 then (if a0 ≤ 222 then (catchwordlaw02_UtfLows.j0 k a0 t104 a0 (a0 != 215)) else (catchwordlaw02_UtfLows.j0 k a0 t104 a0 false)) else (catchwordlaw02_UtfLows.j0 k a0 t104 a0 false))) else (if a0 ≥ 192 then (if a0 ≤ 222 then (catchwordlaw02_UtfLows.j0 k a0 t104 a0 (a0 != 215)) else (catchwordlaw02_UtfLows.j0 k a0 t104 a0 false)) else (catchwordlaw02_UtfLows.j0 k a0 t104 a0 false))) else (some false)))) else (some false)) = some r := H
  have A2 := Aside0.mk A20
  clear A20
  by_cases c3 : t103 = true
  · subst c3
    have H1 : ((utf_Low.f k a0).bind fun t104 => ((utf_Low.f k t104).bind fun t105 => (if t105 = t104 then (if a0 ≥ 65 then (if a0 ≤ 90 then (catchwordlaw02_UtfLows.j0 k a0 t104 a0 true) else (if a0 ≥ 192 then (if a0 ≤ 222 then (catchwordlaw02_UtfLows.j0 k a0 t104 a0 (a0 != 215)) else (catchwordlaw02_UtfLows.j0 k a0 t104 a0 false)) else (catchwordlaw02_UtfLows.j0 k a0 t104 a0 false))) else (if a0 ≥ 192 then (if a0 ≤ 222 then (catchwordlaw02_UtfLows.j0 k a0 t104 a0 (a0 != 215)) else (catchwordlaw02_UtfLows.j0 k a0 t104 a0 false)) else (catchwordlaw02_UtfLows.j0 k a0 t104 a0 false))) else (some false)))) = some r := by rw [if_pos rfl] at H; exact H
    clear H
    have H := H1
    clear H1
    replace H := Option.bind_eq_some_iff.mp H
    obtain ⟨t104, A40, H⟩ := H
    replace H : ((utf_Low.f k t104).bind fun t105 => (if t105 = t104 then (if a0 ≥ 65 then (if a0 ≤ 90 then (catchwordlaw02_UtfLows.j0 k a0 t104 a0 true) else (if a0 ≥ 192 then (if a0 ≤ 222 then (catchwordlaw02_UtfLows.j0 k a0 t104 a0 (a0 != 215)) else (catchwordlaw02_UtfLows.j0 k a0 t104 a0 false)) else (catchwordlaw02_UtfLows.j0 k a0 t104 a0 false))) else (if a0 ≥ 192 then (if a0 ≤ 222 then (catchwordlaw02_UtfLows.j0 k a0 t104 a0 (a0 != 215)) else (catchwordlaw02_UtfLows.j0 k a0 t104 a0 false)) else (catchwordlaw02_UtfLows.j0 k a0 t104 a0 false))) else (some false))) = some r := H
    have A4 := Aside0.mk A40
    clear A40
    replace H := Option.bind_eq_some_iff.mp H
    obtain ⟨t105, A50, H⟩ := H
    replace H : (if t105 = t104 then (if a0 ≥ 65 then (if a0 ≤ 90 then (catchwordlaw02_UtfLows.j0 k a0 t104 a0 true) else (if a0 ≥ 192 then (if a0 ≤ 222 then (catchwordlaw02_UtfLows.j0 k a0 t104 a0 (a0 != 215)) else (catchwordlaw02_UtfLows.j0 k a0 t104 a0 false)) else (catchwordlaw02_UtfLows.j0 k a0 t104 a0 false))) else (if a0 ≥ 192 then (if a0 ≤ 222 then (catchwordlaw02_UtfLows.j0 k a0 t104 a0 (a0 != 215)) else (catchwordlaw02_UtfLows.j0 k a0 t104 a0 false)) else (catchwordlaw02_UtfLows.j0 k a0 t104 a0 false))) else (some false)) = some r := H
    have A5 := Aside0.mk A50
    clear A50
    by_cases c6 : t105 = t104
    · rw [if_pos c6] at H
      have c6b0 : (t105 == t104) = true := beq_iff_eq.mpr c6
      have c6b1 : (t105 != t104) = false := bne_eq_false_iff_eq.mpr c6
      clear c6
      have HC7 := Aside0.mk H
      clear H
      go_enter Try.func3, Try.ntmps3
      go_upto_region 7 with (first | ((with_reducible refine gate_callee (f := 11) rfl ?_); refine goesL_ (some 5) rfl rfl Try.func11 (by kernel_rfl) rfl #[] rfl (by (try simp only [List.map_toArray, List.map_cons, List.map_nil]); first | done | rfl | (simp only [List.length_drop, List.length_take]; rfl)) ?_; (with_reducible refine (catchwordlaw02_head.calls k  true _ A2.out).mono ?_); rintro e w' ⟨rfl, ⟨nd, rfl⟩⟩; refine ⟨_, rfl, ?_⟩) | ((with_reducible refine gate_callee (f := 12) rfl ?_); refine goesL_ (some 8) rfl rfl Try.func12 (by kernel_rfl) rfl #[.int .i32 a0] rfl (by (try simp only [List.map_toArray, List.map_cons, List.map_nil]); first | done | rfl | (simp only [List.length_drop, List.length_take]; rfl)) ?_; (with_reducible refine (utf_Low.calls k a0 t104 _ A4.out).mono ?_); rintro e w' ⟨rfl, ⟨nd, rfl⟩⟩; refine ⟨_, rfl, ?_⟩) | ((with_reducible refine gate_callee (f := 12) rfl ?_); refine goesL_ (some 10) rfl rfl Try.func12 (by kernel_rfl) rfl #[.int .i32 t104] rfl (by (try simp only [List.map_toArray, List.map_cons, List.map_nil]); first | done | rfl | (simp only [List.length_drop, List.length_take]; rfl)) ?_; (with_reducible refine (utf_Low.calls k t104 t105 _ A5.out).mono ?_); rintro e w' ⟨rfl, ⟨nd, rfl⟩⟩; refine ⟨_, rfl, ?_⟩))
      (try simp only [Act.put, List.setIfInBounds_toArray, List.set_cons_zero, List.set_cons_succ])
      go_cut [14] (fun v14 wc => ∃ (kq : Nat) (x14_6 : Bool), v14 = .bool x14_6 ∧ Aside0 (catchwordlaw02_UtfLows.j0 kq a0 t104 a0 x14_6 = some r) ∧ Aside0 (kq ≤ k) ∧ Drawn0 w wc)
      case first =>
        have H := HC7.out
        clear HC7
        by_cases c8 : a0 ≥ 65
        · rw [if_pos c8] at H
          have c8b0 : decide (65 ≤ a0) = true := decide_eq_true c8
          clear c8
          (first | rw [c8b0] | (simp only [i64_w, i32_w]; rw [c8b0]) | skip)
          by_cases c9 : a0 ≤ 90
          · rw [if_pos c9] at H
            have c9b0 : decide (a0 ≤ 90) = true := decide_eq_true c9
            clear c9
            have H' := Aside0.mk H
            clear H
            go_wp2
            go_meet
            case rel => exact ⟨_, (true), (by first | rfl | (simp; done) | (simp [*]; done)), H', ⟨by first | omega | exact Nat.le_refl _⟩, by repeat (first | exact Drawn0.refl _ | apply Drawn0.step)⟩
          · rw [if_neg c9] at H
            have c9b0 : decide (a0 ≤ 90) = false := decide_eq_false c9
            clear c9
            by_cases c10 : a0 ≥ 192
            · rw [if_pos c10] at H
              have c10b0 : decide (192 ≤ a0) = true := decide_eq_true c10
              clear c10
              by_cases c11 : a0 ≤ 222
              · rw [if_pos c11] at H
                have c11b0 : decide (a0 ≤ 222) = true := decide_eq_true c11
                clear c11
                have H' := Aside0.mk H
                clear H
                go_wp2
                go_meet
                case rel => exact ⟨_, ((a0 != 215)), (by first | rfl | (simp; done) | (simp [*]; done)), H', ⟨by first | omega | exact Nat.le_refl _⟩, by repeat (first | exact Drawn0.refl _ | apply Drawn0.step)⟩
              · rw [if_neg c11] at H
                have c11b0 : decide (a0 ≤ 222) = false := decide_eq_false c11
                clear c11
                have H' := Aside0.mk H
                clear H
                go_wp2
                go_meet
                case rel => exact ⟨_, (false), (by first | rfl | (simp; done) | (simp [*]; done)), H', ⟨by first | omega | exact Nat.le_refl _⟩, by repeat (first | exact Drawn0.refl _ | apply Drawn0.step)⟩
            · rw [if_neg c10] at H
              have c10b0 : decide (192 ≤ a0) = false := decide_eq_false c10
              clear c10
              have H' := Aside0.mk H
              clear H
              go_wp2
              go_meet
              case rel => exact ⟨_, (false), (by first | rfl | (simp; done) | (simp [*]; done)), H', ⟨by first | omega | exact Nat.le_refl _⟩, by repeat (first | exact Drawn0.refl _ | apply Drawn0.step)⟩
        · rw [if_neg c8] at H
          have c8b0 : decide (65 ≤ a0) = false := decide_eq_false c8
          clear c8
          (first | rw [c8b0] | (simp only [i64_w, i32_w]; rw [c8b0]) | skip)
          by_cases c12 : a0 ≥ 192
          · rw [if_pos c12] at H
            have c12b0 : decide (192 ≤ a0) = true := decide_eq_true c12
            clear c12
            by_cases c13 : a0 ≤ 222
            · rw [if_pos c13] at H
              have c13b0 : decide (a0 ≤ 222) = true := decide_eq_true c13
              clear c13
              have H' := Aside0.mk H
              clear H
              go_wp2
              go_meet
              case rel => exact ⟨_, ((a0 != 215)), (by first | rfl | (simp; done) | (simp [*]; done)), H', ⟨by first | omega | exact Nat.le_refl _⟩, by repeat (first | exact Drawn0.refl _ | apply Drawn0.step)⟩
            · rw [if_neg c13] at H
              have c13b0 : decide (a0 ≤ 222) = false := decide_eq_false c13
              clear c13
              have H' := Aside0.mk H
              clear H
              go_wp2
              go_meet
              case rel => exact ⟨_, (false), (by first | rfl | (simp; done) | (simp [*]; done)), H', ⟨by first | omega | exact Nat.le_refl _⟩, by repeat (first | exact Drawn0.refl _ | apply Drawn0.step)⟩
          · rw [if_neg c12] at H
            have c12b0 : decide (192 ≤ a0) = false := decide_eq_false c12
            clear c12
            have H' := Aside0.mk H
            clear H
            go_wp2
            go_meet
            case rel => exact ⟨_, (false), (by first | rfl | (simp; done) | (simp [*]; done)), H', ⟨by first | omega | exact Nat.le_refl _⟩, by repeat (first | exact Drawn0.refl _ | apply Drawn0.step)⟩
      case rest =>
        clear HC7
        try clear c1
        try clear p2
        try clear c3
        try clear c6
        try clear c6b0
        try clear c6b1
        try clear c8
        try clear c8b0
        try clear c9
        try clear c9b0
        try clear c10
        try clear c10b0
        try clear c11
        try clear c11b0
        try clear c12
        try clear c12b0
        try clear c13
        try clear c13b0
        obtain ⟨kq, x14_6, rfl, HA, HJ6, ⟨mc6, rfl⟩⟩ := hcut
        cases kq with
        | zero => exact absurd HA.out (by simp [catchwordlaw02_UtfLows.j0])
        | succ kj6 =>
          have H := HA.out
          clear HA
          simp only [catchwordlaw02_UtfLows.j0] at H
          by_cases c14 : x14_6 = true
          · subst c14
            have H1 : (some (t104 == (wrap32 (a0 + 32)))) = some r := by rw [if_pos rfl] at H; exact H
            clear H
            have H := H1
            clear H1
            obtain rfl := Option.some.inj H
            go_wp2
            go_ret
            exact ⟨by first | rfl | (simp; done) | (simp [*]; done), by repeat (first | exact Drawn0.refl _ | apply Drawn0.step)⟩
          · replace c14 := Bool.eq_false_iff.mpr c14
            subst c14
            have H1 : (if a0 = 376 then (some (t104 == 255)) else (if a0 ≥ 256 then (if a0 ≤ 311 then (if a0 = 304 then (if a0 ≥ 330 then (if a0 ≤ 375 then (if (Int.tmod a0 2) = 0 then (some (t104 == (wrap32 (a0 + 1)))) else (if a0 ≥ 313 then (if a0 ≤ 328 then (if (Int.tmod a0 2) = 1 then (some (t104 == (wrap32 (a0 + 1)))) else (if a0 ≥ 377 then (if a0 ≤ 382 then (some (t104 == a0)) else (some (t104 == a0))) else (some (t104 == a0)))) else (if a0 ≥ 377 then (if a0 ≤ 382 then (if (Int.tmod a0 2) = 1 then (some (t104 == (wrap32 (a0 + 1)))) else (some (t104 == a0))) else (some (t104 == a0))) else (some (t104 == a0)))) else (if a0 ≥ 377 then (if a0 ≤ 382 then (if (Int.tmod a0 2) = 1 then (some (t104 == (wrap32 (a0 + 1)))) else (some (t104 == a0))) else (some (t104 == a0))) else (some (t104 == a0))))) else (if a0 ≥ 313 then (if a0 ≤ 328 then (if (Int.tmod a0 2) = 1 then (some (t104 == (wrap32 (a0 + 1)))) else (if a0 ≥ 377 then (if a0 ≤ 382 then (some (t104 == a0)) else (some (t104 == a0))) else (some (t104 == a0)))) else (if a0 ≥ 377 then (if a0 ≤ 382 then (if (Int.tmod a0 2) = 1 then (some (t104 == (wrap32 (a0 + 1)))) else (some (t104 == a0))) else (some (t104 == a0))) else (some (t104 == a0)))) else (if a0 ≥ 377 then (if a0 ≤ 382 then (if (Int.tmod a0 2) = 1 then (some (t104 == (wrap32 (a0 + 1)))) else (some (t104 == a0))) else (some (t104 == a0))) else (some (t104 == a0))))) else (if a0 ≥ 313 then (if a0 ≤ 328 then (if (Int.tmod a0 2) = 1 then (some (t104 == (wrap32 (a0 + 1)))) else (if a0 ≥ 377 then (if a0 ≤ 382 then (some (t104 == a0)) else (some (t104 == a0))) else (some (t104 == a0)))) else (if a0 ≥ 377 then (if a0 ≤ 382 then (if (Int.tmod a0 2) = 1 then (some (t104 == (wrap32 (a0 + 1)))) else (some (t104 == a0))) else (some (t104 == a0))) else (some (t104 == a0)))) else (if a0 ≥ 377 then (if a0 ≤ 382 then (if (Int.tmod a0 2) = 1 then (some (t104 == (wrap32 (a0 + 1)))) else (some (t104 == a0))) else (some (t104 == a0))) else (some (t104 == a0))))) else (if (Int.tmod a0 2) = 0 then (some (t104 == (wrap32 (a0 + 1)))) else (if a0 ≥ 330 then (if a0 ≤ 375 then (if a0 ≥ 313 then (if a0 ≤ 328 then (if (Int.tmod a0 2) = 1 then (some (t104 == (wrap32 (a0 + 1)))) else (if a0 ≥ 377 then (if a0 ≤ 382 then (some (t104 == a0)) else (some (t104 == a0))) else (some (t104 == a0)))) else (if a0 ≥ 377 then (if a0 ≤ 382 then (if (Int.tmod a0 2) = 1 then (some (t104 == (wrap32 (a0 + 1)))) else (some (t104 == a0))) else (some (t104 == a0))) else (some (t104 == a0)))) else (if a0 ≥ 377 then (if a0 ≤ 382 then (if (Int.tmod a0 2) = 1 then (some (t104 == (wrap32 (a0 + 1)))) else (some (t104 == a0))) else (some (t104 == a0))) else (some (t104 == a0)))) else (if a0 ≥ 313 then (if a0 ≤ 328 then (if (Int.tmod a0 2) = 1 then (some (t104 == (wrap32 (a0 + 1)))) else (if a0 ≥ 377 then (if a0 ≤ 382 then (some (t104 == a0)) else (some (t104 == a0))) else (some (t104 == a0)))) else (if a0 ≥ 377 then (if a0 ≤ 382 then (if (Int.tmod a0 2) = 1 then (some (t104 == (wrap32 (a0 + 1)))) else (some (t104 == a0))) else (some (t104 == a0))) else (some (t104 == a0)))) else (if a0 ≥ 377 then (if a0 ≤ 382 then (if (Int.tmod a0 2) = 1 then (some (t104 == (wrap32 (a0 + 1)))) else (some (t104 == a0))) else (some (t104 == a0))) else (some (t104 == a0))))) else (if a0 ≥ 313 then (if a0 ≤ 328 then (if (Int.tmod a0 2) = 1 then (some (t104 == (wrap32 (a0 + 1)))) else (if a0 ≥ 377 then (if a0 ≤ 382 then (some (t104 == a0)) else (some (t104 == a0))) else (some (t104 == a0)))) else (if a0 ≥ 377 then (if a0 ≤ 382 then (if (Int.tmod a0 2) = 1 then (some (t104 == (wrap32 (a0 + 1)))) else (some (t104 == a0))) else (some (t104 == a0))) else (some (t104 == a0)))) else (if a0 ≥ 377 then (if a0 ≤ 382 then (if (Int.tmod a0 2) = 1 then (some (t104 == (wrap32 (a0 + 1)))) else (some (t104 == a0))) else (some (t104 == a0))) else (some (t104 == a0))))))) else (if a0 ≥ 330 then (if a0 ≤ 375 then (if (Int.tmod a0 2) = 0 then (some (t104 == (wrap32 (a0 + 1)))) else (if a0 ≥ 313 then (if a0 ≤ 328 then (if (Int.tmod a0 2) = 1 then (some (t104 == (wrap32 (a0 + 1)))) else (if a0 ≥ 377 then (if a0 ≤ 382 then (some (t104 == a0)) else (some (t104 == a0))) else (some (t104 == a0)))) else (if a0 ≥ 377 then (if a0 ≤ 382 then (if (Int.tmod a0 2) = 1 then (some (t104 == (wrap32 (a0 + 1)))) else (some (t104 == a0))) else (some (t104 == a0))) else (some (t104 == a0)))) else (if a0 ≥ 377 then (if a0 ≤ 382 then (if (Int.tmod a0 2) = 1 then (some (t104 == (wrap32 (a0 + 1)))) else (some (t104 == a0))) else (some (t104 == a0))) else (some (t104 == a0))))) else (if a0 ≥ 313 then (if a0 ≤ 328 then (if (Int.tmod a0 2) = 1 then (some (t104 == (wrap32 (a0 + 1)))) else (if a0 ≥ 377 then (if a0 ≤ 382 then (some (t104 == a0)) else (some (t104 == a0))) else (some (t104 == a0)))) else (if a0 ≥ 377 then (if a0 ≤ 382 then (if (Int.tmod a0 2) = 1 then (some (t104 == (wrap32 (a0 + 1)))) else (some (t104 == a0))) else (some (t104 == a0))) else (some (t104 == a0)))) else (if a0 ≥ 377 then (if a0 ≤ 382 then (if (Int.tmod a0 2) = 1 then (some (t104 == (wrap32 (a0 + 1)))) else (some (t104 == a0))) else (some (t104 == a0))) else (some (t104 == a0))))) else (if a0 ≥ 313 then (if a0 ≤ 328 then (if (Int.tmod a0 2) = 1 then (some (t104 == (wrap32 (a0 + 1)))) else (if a0 ≥ 377 then (if a0 ≤ 382 then (some (t104 == a0)) else (some (t104 == a0))) else (some (t104 == a0)))) else (if a0 ≥ 377 then (if a0 ≤ 382 then (if (Int.tmod a0 2) = 1 then (some (t104 == (wrap32 (a0 + 1)))) else (some (t104 == a0))) else (some (t104 == a0))) else (some (t104 == a0)))) else (if a0 ≥ 377 then (if a0 ≤ 382 then (if (Int.tmod a0 2) = 1 then (some (t104 == (wrap32 (a0 + 1)))) else (some (t104 == a0))) else (some (t104 == a0))) else (some (t104 == a0)))))) else (if a0 ≥ 330 then (if a0 ≤ 375 then (if (Int.tmod a0 2) = 0 then (some (t104 == (wrap32 (a0 + 1)))) else (if a0 ≥ 313 then (if a0 ≤ 328 then (if (Int.tmod a0 2) = 1 then (some (t104 == (wrap32 (a0 + 1)))) else (if a0 ≥ 377 then (if a0 ≤ 382 then (some (t104 == a0)) else (some (t104 == a0))) else (some (t104 == a0)))) else (if a0 ≥ 377 then (if a0 ≤ 382 then (if (Int.tmod a0 2) = 1 then (some (t104 == (wrap32 (a0 + 1)))) else (some (t104 == a0))) else (some (t104 == a0))) else (some (t104 == a0)))) else (if a0 ≥ 377 then (if a0 ≤ 382 then (if (Int.tmod a0 2) = 1 then (some (t104 == (wrap32 (a0 + 1)))) else (some (t104 == a0))) else (some (t104 == a0))) else (some (t104 == a0))))) else (if a0 ≥ 313 then (if a0 ≤ 328 then (if (Int.tmod a0 2) = 1 then (some (t104 == (wrap32 (a0 + 1)))) else (if a0 ≥ 377 then (if a0 ≤ 382 then (some (t104 == a0)) else (some (t104 == a0))) else (some (t104 == a0)))) else (if a0 ≥ 377 then (if a0 ≤ 382 then (if (Int.tmod a0 2) = 1 then (some (t104 == (wrap32 (a0 + 1)))) else (some (t104 == a0))) else (some (t104 == a0))) else (some (t104 == a0)))) else (if a0 ≥ 377 then (if a0 ≤ 382 then (if (Int.tmod a0 2) = 1 then (some (t104 == (wrap32 (a0 + 1)))) else (some (t104 == a0))) else (some (t104 == a0))) else (some (t104 == a0))))) else (if a0 ≥ 313 then (if a0 ≤ 328 then (if (Int.tmod a0 2) = 1 then (some (t104 == (wrap32 (a0 + 1)))) else (if a0 ≥ 377 then (if a0 ≤ 382 then (some (t104 == a0)) else (some (t104 == a0))) else (some (t104 == a0)))) else (if a0 ≥ 377 then (if a0 ≤ 382 then (if (Int.tmod a0 2) = 1 then (some (t104 == (wrap32 (a0 + 1)))) else (some (t104 == a0))) else (some (t104 == a0))) else (some (t104 == a0)))) else (if a0 ≥ 377 then (if a0 ≤ 382 then (if (Int.tmod a0 2) = 1 then (some (t104 == (wrap32 (a0 + 1)))) else (some (t104 == a0))) else (some (t104 == a0))) else (some (t104 == a0))))))) = some r := by rw [if_neg (show ¬ (false = true) by decide)] at H; exact H
            clear H
            have H := H1
            clear H1
            by_cases c15 : a0 = 376
            · rw [if_pos c15] at H
              have c15b0 : (a0 == 376) = true := beq_iff_eq.mpr c15
              have c15b1 : (a0 != 376) = false := bne_eq_false_iff_eq.mpr c15
              clear c15
              obtain rfl := Option.some.inj H
              go_wp2
              go_ret
              exact ⟨by first | rfl | (simp; done) | (simp [*]; done), by repeat (first | exact Drawn0.refl _ | apply Drawn0.step)⟩
            · rw [if_neg c15] at H
              have c15b0 : (a0 == 376) = false := beq_eq_false_iff_ne.mpr c15
              have c15b1 : (a0 != 376) = true := bne_iff_ne.mpr c15
              by_cases c16 : a0 ≥ 256
              · rw [if_pos c16] at H
                have c16b0 : decide (256 ≤ a0) = true := decide_eq_true c16
                clear c16
                by_cases c17 : a0 ≤ 311
                · rw [if_pos c17] at H
                  have c17b0 : decide (a0 ≤ 311) = true := decide_eq_true c17
                  clear c17
                  by_cases c18 : a0 = 304
                  · rw [if_pos c18] at H
                    have c18b0 : (a0 == 304) = true := beq_iff_eq.mpr c18
                    have c18b1 : (a0 != 304) = false := bne_eq_false_iff_eq.mpr c18
                    clear c18
                    by_cases c19 : a0 ≥ 330
                    · rw [if_pos c19] at H
                      have c19b0 : decide (330 ≤ a0) = true := decide_eq_true c19
                      clear c19
                      by_cases c20 : a0 ≤ 375
                      · rw [if_pos c20] at H
                        have c20b0 : decide (a0 ≤ 375) = true := decide_eq_true c20
                        clear c20
                        by_cases c21 : (Int.tmod a0 2) = 0
                        · rw [if_pos c21] at H
                          have c21b0 : ((Int.tmod a0 2) == 0) = true := beq_iff_eq.mpr c21
                          have c21b1 : ((Int.tmod a0 2) != 0) = false := bne_eq_false_iff_eq.mpr c21
                          clear c21
                          obtain rfl := Option.some.inj H
                          go_wp2
                          go_ret
                          exact ⟨by first | rfl | (simp; done) | (simp [*]; done), by repeat (first | exact Drawn0.refl _ | apply Drawn0.step)⟩
                        · rw [if_neg c21] at H
                          have c21b0 : ((Int.tmod a0 2) == 0) = false := beq_eq_false_iff_ne.mpr c21
                          have c21b1 : ((Int.tmod a0 2) != 0) = true := bne_iff_ne.mpr c21
                          by_cases c22 : a0 ≥ 313
                          · rw [if_pos c22] at H
                            have c22b0 : decide (313 ≤ a0) = true := decide_eq_true c22
                            clear c22
                            by_cases c23 : a0 ≤ 328
                            · rw [if_pos c23] at H
                              have c23b0 : decide (a0 ≤ 328) = true := decide_eq_true c23
                              clear c23
                              by_cases c24 : (Int.tmod a0 2) = 1
                              · rw [if_pos c24] at H
                                have c24b0 : ((Int.tmod a0 2) == 1) = true := beq_iff_eq.mpr c24
                                have c24b1 : ((Int.tmod a0 2) != 1) = false := bne_eq_false_iff_eq.mpr c24
                                clear c24
                                obtain rfl := Option.some.inj H
                                go_wp2
                                go_ret
                                exact ⟨by first | rfl | (simp; done) | (simp [*]; done), by repeat (first | exact Drawn0.refl _ | apply Drawn0.step)⟩
                              · rw [if_neg c24] at H
                                have c24b0 : ((Int.tmod a0 2) == 1) = false := beq_eq_false_iff_ne.mpr c24
                                have c24b1 : ((Int.tmod a0 2) != 1) = true := bne_iff_ne.mpr c24
                                by_cases c25 : a0 ≥ 377
                                · rw [if_pos c25] at H
                                  have c25b0 : decide (377 ≤ a0) = true := decide_eq_true c25
                                  clear c25
                                  by_cases c26 : a0 ≤ 382
                                  · rw [if_pos c26] at H
                                    have c26b0 : decide (a0 ≤ 382) = true := decide_eq_true c26
                                    clear c26
                                    obtain rfl := Option.some.inj H
                                    go_wp2
                                    go_ret
                                    exact ⟨by first | rfl | (simp; done) | (simp [*]; done), by repeat (first | exact Drawn0.refl _ | apply Drawn0.step)⟩
                                  · rw [if_neg c26] at H
                                    have c26b0 : decide (a0 ≤ 382) = false := decide_eq_false c26
                                    clear c26
                                    obtain rfl := Option.some.inj H
                                    go_wp2
                                    go_ret
                                    exact ⟨by first | rfl | (simp; done) | (simp [*]; done), by repeat (first | exact Drawn0.refl _ | apply Drawn0.step)⟩
                                · rw [if_neg c25] at H
                                  have c25b0 : decide (377 ≤ a0) = false := decide_eq_false c25
                                  clear c25
                                  obtain rfl := Option.some.inj H
                                  go_wp2
                                  go_ret
                                  exact ⟨by first | rfl | (simp; done) | (simp [*]; done), by repeat (first | exact Drawn0.refl _ | apply Drawn0.step)⟩
                            · rw [if_neg c23] at H
                              have c23b0 : decide (a0 ≤ 328) = false := decide_eq_false c23
                              clear c23
                              by_cases c27 : a0 ≥ 377
                              · rw [if_pos c27] at H
                                have c27b0 : decide (377 ≤ a0) = true := decide_eq_true c27
                                clear c27
                                by_cases c28 : a0 ≤ 382
                                · rw [if_pos c28] at H
                                  have c28b0 : decide (a0 ≤ 382) = true := decide_eq_true c28
                                  clear c28
                                  by_cases c29 : (Int.tmod a0 2) = 1
                                  · rw [if_pos c29] at H
                                    have c29b0 : ((Int.tmod a0 2) == 1) = true := beq_iff_eq.mpr c29
                                    have c29b1 : ((Int.tmod a0 2) != 1) = false := bne_eq_false_iff_eq.mpr c29
                                    clear c29
                                    obtain rfl := Option.some.inj H
                                    go_wp2
                                    go_ret
                                    exact ⟨by first | rfl | (simp; done) | (simp [*]; done), by repeat (first | exact Drawn0.refl _ | apply Drawn0.step)⟩
                                  · rw [if_neg c29] at H
                                    have c29b0 : ((Int.tmod a0 2) == 1) = false := beq_eq_false_iff_ne.mpr c29
                                    have c29b1 : ((Int.tmod a0 2) != 1) = true := bne_iff_ne.mpr c29
                                    obtain rfl := Option.some.inj H
                                    go_wp2
                                    go_ret
                                    exact ⟨by first | rfl | (simp; done) | (simp [*]; done), by repeat (first | exact Drawn0.refl _ | apply Drawn0.step)⟩
                                · rw [if_neg c28] at H
                                  have c28b0 : decide (a0 ≤ 382) = false := decide_eq_false c28
                                  clear c28
                                  obtain rfl := Option.some.inj H
                                  go_wp2
                                  go_ret
                                  exact ⟨by first | rfl | (simp; done) | (simp [*]; done), by repeat (first | exact Drawn0.refl _ | apply Drawn0.step)⟩
                              · rw [if_neg c27] at H
                                have c27b0 : decide (377 ≤ a0) = false := decide_eq_false c27
                                clear c27
                                obtain rfl := Option.some.inj H
                                go_wp2
                                go_ret
                                exact ⟨by first | rfl | (simp; done) | (simp [*]; done), by repeat (first | exact Drawn0.refl _ | apply Drawn0.step)⟩
                          · rw [if_neg c22] at H
                            have c22b0 : decide (313 ≤ a0) = false := decide_eq_false c22
                            clear c22
                            by_cases c30 : a0 ≥ 377
                            · rw [if_pos c30] at H
                              have c30b0 : decide (377 ≤ a0) = true := decide_eq_true c30
                              clear c30
                              by_cases c31 : a0 ≤ 382
                              · rw [if_pos c31] at H
                                have c31b0 : decide (a0 ≤ 382) = true := decide_eq_true c31
                                clear c31
                                by_cases c32 : (Int.tmod a0 2) = 1
                                · rw [if_pos c32] at H
                                  have c32b0 : ((Int.tmod a0 2) == 1) = true := beq_iff_eq.mpr c32
                                  have c32b1 : ((Int.tmod a0 2) != 1) = false := bne_eq_false_iff_eq.mpr c32
                                  clear c32
                                  obtain rfl := Option.some.inj H
                                  go_wp2
                                  go_ret
                                  exact ⟨by first | rfl | (simp; done) | (simp [*]; done), by repeat (first | exact Drawn0.refl _ | apply Drawn0.step)⟩
                                · rw [if_neg c32] at H
                                  have c32b0 : ((Int.tmod a0 2) == 1) = false := beq_eq_false_iff_ne.mpr c32
                                  have c32b1 : ((Int.tmod a0 2) != 1) = true := bne_iff_ne.mpr c32
                                  obtain rfl := Option.some.inj H
                                  go_wp2
                                  go_ret
                                  exact ⟨by first | rfl | (simp; done) | (simp [*]; done), by repeat (first | exact Drawn0.refl _ | apply Drawn0.step)⟩
                              · rw [if_neg c31] at H
                                have c31b0 : decide (a0 ≤ 382) = false := decide_eq_false c31
                                clear c31
                                obtain rfl := Option.some.inj H
                                go_wp2
                                go_ret
                                exact ⟨by first | rfl | (simp; done) | (simp [*]; done), by repeat (first | exact Drawn0.refl _ | apply Drawn0.step)⟩
                            · rw [if_neg c30] at H
                              have c30b0 : decide (377 ≤ a0) = false := decide_eq_false c30
                              clear c30
                              obtain rfl := Option.some.inj H
                              go_wp2
                              go_ret
                              exact ⟨by first | rfl | (simp; done) | (simp [*]; done), by repeat (first | exact Drawn0.refl _ | apply Drawn0.step)⟩
                      · rw [if_neg c20] at H
                        have c20b0 : decide (a0 ≤ 375) = false := decide_eq_false c20
                        clear c20
                        by_cases c33 : a0 ≥ 313
                        · rw [if_pos c33] at H
                          have c33b0 : decide (313 ≤ a0) = true := decide_eq_true c33
                          clear c33
                          by_cases c34 : a0 ≤ 328
                          · rw [if_pos c34] at H
                            have c34b0 : decide (a0 ≤ 328) = true := decide_eq_true c34
                            clear c34
                            by_cases c35 : (Int.tmod a0 2) = 1
                            · rw [if_pos c35] at H
                              have c35b0 : ((Int.tmod a0 2) == 1) = true := beq_iff_eq.mpr c35
                              have c35b1 : ((Int.tmod a0 2) != 1) = false := bne_eq_false_iff_eq.mpr c35
                              clear c35
                              obtain rfl := Option.some.inj H
                              go_wp2
                              go_ret
                              exact ⟨by first | rfl | (simp; done) | (simp [*]; done), by repeat (first | exact Drawn0.refl _ | apply Drawn0.step)⟩
                            · rw [if_neg c35] at H
                              have c35b0 : ((Int.tmod a0 2) == 1) = false := beq_eq_false_iff_ne.mpr c35
                              have c35b1 : ((Int.tmod a0 2) != 1) = true := bne_iff_ne.mpr c35
                              by_cases c36 : a0 ≥ 377
                              · rw [if_pos c36] at H
                                have c36b0 : decide (377 ≤ a0) = true := decide_eq_true c36
                                clear c36
                                by_cases c37 : a0 ≤ 382
                                · rw [if_pos c37] at H
                                  have c37b0 : decide (a0 ≤ 382) = true := decide_eq_true c37
                                  clear c37
                                  obtain rfl := Option.some.inj H
                                  go_wp2
                                  go_ret
                                  exact ⟨by first | rfl | (simp; done) | (simp [*]; done), by repeat (first | exact Drawn0.refl _ | apply Drawn0.step)⟩
                                · rw [if_neg c37] at H
                                  have c37b0 : decide (a0 ≤ 382) = false := decide_eq_false c37
                                  clear c37
                                  obtain rfl := Option.some.inj H
                                  go_wp2
                                  go_ret
                                  exact ⟨by first | rfl | (simp; done) | (simp [*]; done), by repeat (first | exact Drawn0.refl _ | apply Drawn0.step)⟩
                              · rw [if_neg c36] at H
                                have c36b0 : decide (377 ≤ a0) = false := decide_eq_false c36
                                clear c36
                                obtain rfl := Option.some.inj H
                                go_wp2
                                go_ret
                                exact ⟨by first | rfl | (simp; done) | (simp [*]; done), by repeat (first | exact Drawn0.refl _ | apply Drawn0.step)⟩
                          · rw [if_neg c34] at H
                            have c34b0 : decide (a0 ≤ 328) = false := decide_eq_false c34
                            clear c34
                            by_cases c38 : a0 ≥ 377
                            · rw [if_pos c38] at H
                              have c38b0 : decide (377 ≤ a0) = true := decide_eq_true c38
                              clear c38
                              by_cases c39 : a0 ≤ 382
                              · rw [if_pos c39] at H
                                have c39b0 : decide (a0 ≤ 382) = true := decide_eq_true c39
                                clear c39
                                by_cases c40 : (Int.tmod a0 2) = 1
                                · rw [if_pos c40] at H
                                  have c40b0 : ((Int.tmod a0 2) == 1) = true := beq_iff_eq.mpr c40
                                  have c40b1 : ((Int.tmod a0 2) != 1) = false := bne_eq_false_iff_eq.mpr c40
                                  clear c40
                                  obtain rfl := Option.some.inj H
                                  go_wp2
                                  go_ret
                                  exact ⟨by first | rfl | (simp; done) | (simp [*]; done), by repeat (first | exact Drawn0.refl _ | apply Drawn0.step)⟩
                                · rw [if_neg c40] at H
                                  have c40b0 : ((Int.tmod a0 2) == 1) = false := beq_eq_false_iff_ne.mpr c40
                                  have c40b1 : ((Int.tmod a0 2) != 1) = true := bne_iff_ne.mpr c40
                                  obtain rfl := Option.some.inj H
                                  go_wp2
                                  go_ret
                                  exact ⟨by first | rfl | (simp; done) | (simp [*]; done), by repeat (first | exact Drawn0.refl _ | apply Drawn0.step)⟩
                              · rw [if_neg c39] at H
                                have c39b0 : decide (a0 ≤ 382) = false := decide_eq_false c39
                                clear c39
                                obtain rfl := Option.some.inj H
                                go_wp2
                                go_ret
                                exact ⟨by first | rfl | (simp; done) | (simp [*]; done), by repeat (first | exact Drawn0.refl _ | apply Drawn0.step)⟩
                            · rw [if_neg c38] at H
                              have c38b0 : decide (377 ≤ a0) = false := decide_eq_false c38
                              clear c38
                              obtain rfl := Option.some.inj H
                              go_wp2
                              go_ret
                              exact ⟨by first | rfl | (simp; done) | (simp [*]; done), by repeat (first | exact Drawn0.refl _ | apply Drawn0.step)⟩
                        · rw [if_neg c33] at H
                          have c33b0 : decide (313 ≤ a0) = false := decide_eq_false c33
                          clear c33
                          by_cases c41 : a0 ≥ 377
                          · rw [if_pos c41] at H
                            have c41b0 : decide (377 ≤ a0) = true := decide_eq_true c41
                            clear c41
                            by_cases c42 : a0 ≤ 382
                            · rw [if_pos c42] at H
                              have c42b0 : decide (a0 ≤ 382) = true := decide_eq_true c42
                              clear c42
                              by_cases c43 : (Int.tmod a0 2) = 1
                              · rw [if_pos c43] at H
                                have c43b0 : ((Int.tmod a0 2) == 1) = true := beq_iff_eq.mpr c43
                                have c43b1 : ((Int.tmod a0 2) != 1) = false := bne_eq_false_iff_eq.mpr c43
                                clear c43
                                obtain rfl := Option.some.inj H
                                go_wp2
                                go_ret
                                exact ⟨by first | rfl | (simp; done) | (simp [*]; done), by repeat (first | exact Drawn0.refl _ | apply Drawn0.step)⟩
                              · rw [if_neg c43] at H
                                have c43b0 : ((Int.tmod a0 2) == 1) = false := beq_eq_false_iff_ne.mpr c43
                                have c43b1 : ((Int.tmod a0 2) != 1) = true := bne_iff_ne.mpr c43
                                obtain rfl := Option.some.inj H
                                go_wp2
                                go_ret
                                exact ⟨by first | rfl | (simp; done) | (simp [*]; done), by repeat (first | exact Drawn0.refl _ | apply Drawn0.step)⟩
                            · rw [if_neg c42] at H
                              have c42b0 : decide (a0 ≤ 382) = false := decide_eq_false c42
                              clear c42
                              obtain rfl := Option.some.inj H
                              go_wp2
                              go_ret
                              exact ⟨by first | rfl | (simp; done) | (simp [*]; done), by repeat (first | exact Drawn0.refl _ | apply Drawn0.step)⟩
                          · rw [if_neg c41] at H
                            have c41b0 : decide (377 ≤ a0) = false := decide_eq_false c41
                            clear c41
                            obtain rfl := Option.some.inj H
                            go_wp2
                            go_ret
                            exact ⟨by first | rfl | (simp; done) | (simp [*]; done), by repeat (first | exact Drawn0.refl _ | apply Drawn0.step)⟩
                    · rw [if_neg c19] at H
                      have c19b0 : decide (330 ≤ a0) = false := decide_eq_false c19
                      clear c19
                      by_cases c44 : a0 ≥ 313
                      · rw [if_pos c44] at H
                        have c44b0 : decide (313 ≤ a0) = true := decide_eq_true c44
                        clear c44
                        by_cases c45 : a0 ≤ 328
                        · rw [if_pos c45] at H
                          have c45b0 : decide (a0 ≤ 328) = true := decide_eq_true c45
                          clear c45
                          by_cases c46 : (Int.tmod a0 2) = 1
                          · rw [if_pos c46] at H
                            have c46b0 : ((Int.tmod a0 2) == 1) = true := beq_iff_eq.mpr c46
                            have c46b1 : ((Int.tmod a0 2) != 1) = false := bne_eq_false_iff_eq.mpr c46
                            clear c46
                            obtain rfl := Option.some.inj H
                            go_wp2
                            go_ret
                            exact ⟨by first | rfl | (simp; done) | (simp [*]; done), by repeat (first | exact Drawn0.refl _ | apply Drawn0.step)⟩
                          · rw [if_neg c46] at H
                            have c46b0 : ((Int.tmod a0 2) == 1) = false := beq_eq_false_iff_ne.mpr c46
                            have c46b1 : ((Int.tmod a0 2) != 1) = true := bne_iff_ne.mpr c46
                            by_cases c47 : a0 ≥ 377
                            · rw [if_pos c47] at H
                              have c47b0 : decide (377 ≤ a0) = true := decide_eq_true c47
                              clear c47
                              by_cases c48 : a0 ≤ 382
                              · rw [if_pos c48] at H
                                have c48b0 : decide (a0 ≤ 382) = true := decide_eq_true c48
                                clear c48
                                obtain rfl := Option.some.inj H
                                go_wp2
                                go_ret
                                exact ⟨by first | rfl | (simp; done) | (simp [*]; done), by repeat (first | exact Drawn0.refl _ | apply Drawn0.step)⟩
                              · rw [if_neg c48] at H
                                have c48b0 : decide (a0 ≤ 382) = false := decide_eq_false c48
                                clear c48
                                obtain rfl := Option.some.inj H
                                go_wp2
                                go_ret
                                exact ⟨by first | rfl | (simp; done) | (simp [*]; done), by repeat (first | exact Drawn0.refl _ | apply Drawn0.step)⟩
                            · rw [if_neg c47] at H
                              have c47b0 : decide (377 ≤ a0) = false := decide_eq_false c47
                              clear c47
                              obtain rfl := Option.some.inj H
                              go_wp2
                              go_ret
                              exact ⟨by first | rfl | (simp; done) | (simp [*]; done), by repeat (first | exact Drawn0.refl _ | apply Drawn0.step)⟩
                        · rw [if_neg c45] at H
                          have c45b0 : decide (a0 ≤ 328) = false := decide_eq_false c45
                          clear c45
                          by_cases c49 : a0 ≥ 377
                          · rw [if_pos c49] at H
                            have c49b0 : decide (377 ≤ a0) = true := decide_eq_true c49
                            clear c49
                            by_cases c50 : a0 ≤ 382
                            · rw [if_pos c50] at H
                              have c50b0 : decide (a0 ≤ 382) = true := decide_eq_true c50
                              clear c50
                              by_cases c51 : (Int.tmod a0 2) = 1
                              · rw [if_pos c51] at H
                                have c51b0 : ((Int.tmod a0 2) == 1) = true := beq_iff_eq.mpr c51
                                have c51b1 : ((Int.tmod a0 2) != 1) = false := bne_eq_false_iff_eq.mpr c51
                                clear c51
                                obtain rfl := Option.some.inj H
                                go_wp2
                                go_ret
                                exact ⟨by first | rfl | (simp; done) | (simp [*]; done), by repeat (first | exact Drawn0.refl _ | apply Drawn0.step)⟩
                              · rw [if_neg c51] at H
                                have c51b0 : ((Int.tmod a0 2) == 1) = false := beq_eq_false_iff_ne.mpr c51
                                have c51b1 : ((Int.tmod a0 2) != 1) = true := bne_iff_ne.mpr c51
                                obtain rfl := Option.some.inj H
                                go_wp2
                                go_ret
                                exact ⟨by first | rfl | (simp; done) | (simp [*]; done), by repeat (first | exact Drawn0.refl _ | apply Drawn0.step)⟩
                            · rw [if_neg c50] at H
                              have c50b0 : decide (a0 ≤ 382) = false := decide_eq_false c50
                              clear c50
                              obtain rfl := Option.some.inj H
                              go_wp2
                              go_ret
                              exact ⟨by first | rfl | (simp; done) | (simp [*]; done), by repeat (first | exact Drawn0.refl _ | apply Drawn0.step)⟩
                          · rw [if_neg c49] at H
                            have c49b0 : decide (377 ≤ a0) = false := decide_eq_false c49
                            clear c49
                            obtain rfl := Option.some.inj H
                            go_wp2
                            go_ret
                            exact ⟨by first | rfl | (simp; done) | (simp [*]; done), by repeat (first | exact Drawn0.refl _ | apply Drawn0.step)⟩
                      · rw [if_neg c44] at H
                        have c44b0 : decide (313 ≤ a0) = false := decide_eq_false c44
                        clear c44
                        by_cases c52 : a0 ≥ 377
                        · rw [if_pos c52] at H
                          have c52b0 : decide (377 ≤ a0) = true := decide_eq_true c52
                          clear c52
                          by_cases c53 : a0 ≤ 382
                          · rw [if_pos c53] at H
                            have c53b0 : decide (a0 ≤ 382) = true := decide_eq_true c53
                            clear c53
                            by_cases c54 : (Int.tmod a0 2) = 1
                            · rw [if_pos c54] at H
                              have c54b0 : ((Int.tmod a0 2) == 1) = true := beq_iff_eq.mpr c54
                              have c54b1 : ((Int.tmod a0 2) != 1) = false := bne_eq_false_iff_eq.mpr c54
                              clear c54
                              obtain rfl := Option.some.inj H
                              go_wp2
                              go_ret
                              exact ⟨by first | rfl | (simp; done) | (simp [*]; done), by repeat (first | exact Drawn0.refl _ | apply Drawn0.step)⟩
                            · rw [if_neg c54] at H
                              have c54b0 : ((Int.tmod a0 2) == 1) = false := beq_eq_false_iff_ne.mpr c54
                              have c54b1 : ((Int.tmod a0 2) != 1) = true := bne_iff_ne.mpr c54
                              obtain rfl := Option.some.inj H
                              go_wp2
                              go_ret
                              exact ⟨by first | rfl | (simp; done) | (simp [*]; done), by repeat (first | exact Drawn0.refl _ | apply Drawn0.step)⟩
                          · rw [if_neg c53] at H
                            have c53b0 : decide (a0 ≤ 382) = false := decide_eq_false c53
                            clear c53
                            obtain rfl := Option.some.inj H
                            go_wp2
                            go_ret
                            exact ⟨by first | rfl | (simp; done) | (simp [*]; done), by repeat (first | exact Drawn0.refl _ | apply Drawn0.step)⟩
                        · rw [if_neg c52] at H
                          have c52b0 : decide (377 ≤ a0) = false := decide_eq_false c52
                          clear c52
                          obtain rfl := Option.some.inj H
                          go_wp2
                          go_ret
                          exact ⟨by first | rfl | (simp; done) | (simp [*]; done), by repeat (first | exact Drawn0.refl _ | apply Drawn0.step)⟩
                  · rw [if_neg c18] at H
                    have c18b0 : (a0 == 304) = false := beq_eq_false_iff_ne.mpr c18
                    have c18b1 : (a0 != 304) = true := bne_iff_ne.mpr c18
                    by_cases c55 : (Int.tmod a0 2) = 0
                    · rw [if_pos c55] at H
                      have c55b0 : ((Int.tmod a0 2) == 0) = true := beq_iff_eq.mpr c55
                      have c55b1 : ((Int.tmod a0 2) != 0) = false := bne_eq_false_iff_eq.mpr c55
                      clear c55
                      obtain rfl := Option.some.inj H
                      go_wp2
                      go_ret
                      exact ⟨by first | rfl | (simp; done) | (simp [*]; done), by repeat (first | exact Drawn0.refl _ | apply Drawn0.step)⟩
                    · rw [if_neg c55] at H
                      have c55b0 : ((Int.tmod a0 2) == 0) = false := beq_eq_false_iff_ne.mpr c55
                      have c55b1 : ((Int.tmod a0 2) != 0) = true := bne_iff_ne.mpr c55
                      by_cases c56 : a0 ≥ 330
                      · rw [if_pos c56] at H
                        have c56b0 : decide (330 ≤ a0) = true := decide_eq_true c56
                        clear c56
                        by_cases c57 : a0 ≤ 375
                        · rw [if_pos c57] at H
                          have c57b0 : decide (a0 ≤ 375) = true := decide_eq_true c57
                          clear c57
                          by_cases c58 : a0 ≥ 313
                          · rw [if_pos c58] at H
                            have c58b0 : decide (313 ≤ a0) = true := decide_eq_true c58
                            clear c58
                            by_cases c59 : a0 ≤ 328
                            · rw [if_pos c59] at H
                              have c59b0 : decide (a0 ≤ 328) = true := decide_eq_true c59
                              clear c59
                              by_cases c60 : (Int.tmod a0 2) = 1
                              · rw [if_pos c60] at H
                                have c60b0 : ((Int.tmod a0 2) == 1) = true := beq_iff_eq.mpr c60
                                have c60b1 : ((Int.tmod a0 2) != 1) = false := bne_eq_false_iff_eq.mpr c60
                                clear c60
                                obtain rfl := Option.some.inj H
                                go_wp2
                                go_ret
                                exact ⟨by first | rfl | (simp; done) | (simp [*]; done), by repeat (first | exact Drawn0.refl _ | apply Drawn0.step)⟩
                              · rw [if_neg c60] at H
                                have c60b0 : ((Int.tmod a0 2) == 1) = false := beq_eq_false_iff_ne.mpr c60
                                have c60b1 : ((Int.tmod a0 2) != 1) = true := bne_iff_ne.mpr c60
                                by_cases c61 : a0 ≥ 377
                                · rw [if_pos c61] at H
                                  have c61b0 : decide (377 ≤ a0) = true := decide_eq_true c61
                                  clear c61
                                  by_cases c62 : a0 ≤ 382
                                  · rw [if_pos c62] at H
                                    have c62b0 : decide (a0 ≤ 382) = true := decide_eq_true c62
                                    clear c62
                                    obtain rfl := Option.some.inj H
                                    go_wp2
                                    go_ret
                                    exact ⟨by first | rfl | (simp; done) | (simp [*]; done), by repeat (first | exact Drawn0.refl _ | apply Drawn0.step)⟩
                                  · rw [if_neg c62] at H
                                    have c62b0 : decide (a0 ≤ 382) = false := decide_eq_false c62
                                    clear c62
                                    obtain rfl := Option.some.inj H
                                    go_wp2
                                    go_ret
                                    exact ⟨by first | rfl | (simp; done) | (simp [*]; done), by repeat (first | exact Drawn0.refl _ | apply Drawn0.step)⟩
                                · rw [if_neg c61] at H
                                  have c61b0 : decide (377 ≤ a0) = false := decide_eq_false c61
                                  clear c61
                                  obtain rfl := Option.some.inj H
                                  go_wp2
                                  go_ret
                                  exact ⟨by first | rfl | (simp; done) | (simp [*]; done), by repeat (first | exact Drawn0.refl _ | apply Drawn0.step)⟩
                            · rw [if_neg c59] at H
                              have c59b0 : decide (a0 ≤ 328) = false := decide_eq_false c59
                              clear c59
                              by_cases c63 : a0 ≥ 377
                              · rw [if_pos c63] at H
                                have c63b0 : decide (377 ≤ a0) = true := decide_eq_true c63
                                clear c63
                                by_cases c64 : a0 ≤ 382
                                · rw [if_pos c64] at H
                                  have c64b0 : decide (a0 ≤ 382) = true := decide_eq_true c64
                                  clear c64
                                  by_cases c65 : (Int.tmod a0 2) = 1
                                  · rw [if_pos c65] at H
                                    have c65b0 : ((Int.tmod a0 2) == 1) = true := beq_iff_eq.mpr c65
                                    have c65b1 : ((Int.tmod a0 2) != 1) = false := bne_eq_false_iff_eq.mpr c65
                                    clear c65
                                    obtain rfl := Option.some.inj H
                                    go_wp2
                                    go_ret
                                    exact ⟨by first | rfl | (simp; done) | (simp [*]; done), by repeat (first | exact Drawn0.refl _ | apply Drawn0.step)⟩
                                  · rw [if_neg c65] at H
                                    have c65b0 : ((Int.tmod a0 2) == 1) = false := beq_eq_false_iff_ne.mpr c65
                                    have c65b1 : ((Int.tmod a0 2) != 1) = true := bne_iff_ne.mpr c65
                                    obtain rfl := Option.some.inj H
                                    go_wp2
                                    go_ret
                                    exact ⟨by first | rfl | (simp; done) | (simp [*]; done), by repeat (first | exact Drawn0.refl _ | apply Drawn0.step)⟩
                                · rw [if_neg c64] at H
                                  have c64b0 : decide (a0 ≤ 382) = false := decide_eq_false c64
                                  clear c64
                                  obtain rfl := Option.some.inj H
                                  go_wp2
                                  go_ret
                                  exact ⟨by first | rfl | (simp; done) | (simp [*]; done), by repeat (first | exact Drawn0.refl _ | apply Drawn0.step)⟩
                              · rw [if_neg c63] at H
                                have c63b0 : decide (377 ≤ a0) = false := decide_eq_false c63
                                clear c63
                                obtain rfl := Option.some.inj H
                                go_wp2
                                go_ret
                                exact ⟨by first | rfl | (simp; done) | (simp [*]; done), by repeat (first | exact Drawn0.refl _ | apply Drawn0.step)⟩
                          · rw [if_neg c58] at H
                            have c58b0 : decide (313 ≤ a0) = false := decide_eq_false c58
                            clear c58
                            by_cases c66 : a0 ≥ 377
                            · rw [if_pos c66] at H
                              have c66b0 : decide (377 ≤ a0) = true := decide_eq_true c66
                              clear c66
                              by_cases c67 : a0 ≤ 382
                              · rw [if_pos c67] at H
                                have c67b0 : decide (a0 ≤ 382) = true := decide_eq_true c67
                                clear c67
                                by_cases c68 : (Int.tmod a0 2) = 1
                                · rw [if_pos c68] at H
                                  have c68b0 : ((Int.tmod a0 2) == 1) = true := beq_iff_eq.mpr c68
                                  have c68b1 : ((Int.tmod a0 2) != 1) = false := bne_eq_false_iff_eq.mpr c68
                                  clear c68
                                  obtain rfl := Option.some.inj H
                                  go_wp2
                                  go_ret
                                  exact ⟨by first | rfl | (simp; done) | (simp [*]; done), by repeat (first | exact Drawn0.refl _ | apply Drawn0.step)⟩
                                · rw [if_neg c68] at H
                                  have c68b0 : ((Int.tmod a0 2) == 1) = false := beq_eq_false_iff_ne.mpr c68
                                  have c68b1 : ((Int.tmod a0 2) != 1) = true := bne_iff_ne.mpr c68
                                  obtain rfl := Option.some.inj H
                                  go_wp2
                                  go_ret
                                  exact ⟨by first | rfl | (simp; done) | (simp [*]; done), by repeat (first | exact Drawn0.refl _ | apply Drawn0.step)⟩
                              · rw [if_neg c67] at H
                                have c67b0 : decide (a0 ≤ 382) = false := decide_eq_false c67
                                clear c67
                                obtain rfl := Option.some.inj H
                                go_wp2
                                go_ret
                                exact ⟨by first | rfl | (simp; done) | (simp [*]; done), by repeat (first | exact Drawn0.refl _ | apply Drawn0.step)⟩
                            · rw [if_neg c66] at H
                              have c66b0 : decide (377 ≤ a0) = false := decide_eq_false c66
                              clear c66
                              obtain rfl := Option.some.inj H
                              go_wp2
                              go_ret
                              exact ⟨by first | rfl | (simp; done) | (simp [*]; done), by repeat (first | exact Drawn0.refl _ | apply Drawn0.step)⟩
                        · rw [if_neg c57] at H
                          have c57b0 : decide (a0 ≤ 375) = false := decide_eq_false c57
                          clear c57
                          by_cases c69 : a0 ≥ 313
                          · rw [if_pos c69] at H
                            have c69b0 : decide (313 ≤ a0) = true := decide_eq_true c69
                            clear c69
                            by_cases c70 : a0 ≤ 328
                            · rw [if_pos c70] at H
                              have c70b0 : decide (a0 ≤ 328) = true := decide_eq_true c70
                              clear c70
                              by_cases c71 : (Int.tmod a0 2) = 1
                              · rw [if_pos c71] at H
                                have c71b0 : ((Int.tmod a0 2) == 1) = true := beq_iff_eq.mpr c71
                                have c71b1 : ((Int.tmod a0 2) != 1) = false := bne_eq_false_iff_eq.mpr c71
                                clear c71
                                obtain rfl := Option.some.inj H
                                go_wp2
                                go_ret
                                exact ⟨by first | rfl | (simp; done) | (simp [*]; done), by repeat (first | exact Drawn0.refl _ | apply Drawn0.step)⟩
                              · rw [if_neg c71] at H
                                have c71b0 : ((Int.tmod a0 2) == 1) = false := beq_eq_false_iff_ne.mpr c71
                                have c71b1 : ((Int.tmod a0 2) != 1) = true := bne_iff_ne.mpr c71
                                by_cases c72 : a0 ≥ 377
                                · rw [if_pos c72] at H
                                  have c72b0 : decide (377 ≤ a0) = true := decide_eq_true c72
                                  clear c72
                                  by_cases c73 : a0 ≤ 382
                                  · rw [if_pos c73] at H
                                    have c73b0 : decide (a0 ≤ 382) = true := decide_eq_true c73
                                    clear c73
                                    obtain rfl := Option.some.inj H
                                    go_wp2
                                    go_ret
                                    exact ⟨by first | rfl | (simp; done) | (simp [*]; done), by repeat (first | exact Drawn0.refl _ | apply Drawn0.step)⟩
                                  · rw [if_neg c73] at H
                                    have c73b0 : decide (a0 ≤ 382) = false := decide_eq_false c73
                                    clear c73
                                    obtain rfl := Option.some.inj H
                                    go_wp2
                                    go_ret
                                    exact ⟨by first | rfl | (simp; done) | (simp [*]; done), by repeat (first | exact Drawn0.refl _ | apply Drawn0.step)⟩
                                · rw [if_neg c72] at H
                                  have c72b0 : decide (377 ≤ a0) = false := decide_eq_false c72
                                  clear c72
                                  obtain rfl := Option.some.inj H
                                  go_wp2
                                  go_ret
                                  exact ⟨by first | rfl | (simp; done) | (simp [*]; done), by repeat (first | exact Drawn0.refl _ | apply Drawn0.step)⟩
                            · rw [if_neg c70] at H
                              have c70b0 : decide (a0 ≤ 328) = false := decide_eq_false c70
                              clear c70
                              by_cases c74 : a0 ≥ 377
                              · rw [if_pos c74] at H
                                have c74b0 : decide (377 ≤ a0) = true := decide_eq_true c74
                                clear c74
                                by_cases c75 : a0 ≤ 382
                                · rw [if_pos c75] at H
                                  have c75b0 : decide (a0 ≤ 382) = true := decide_eq_true c75
                                  clear c75
                                  by_cases c76 : (Int.tmod a0 2) = 1
                                  · rw [if_pos c76] at H
                                    have c76b0 : ((Int.tmod a0 2) == 1) = true := beq_iff_eq.mpr c76
                                    have c76b1 : ((Int.tmod a0 2) != 1) = false := bne_eq_false_iff_eq.mpr c76
                                    clear c76
                                    obtain rfl := Option.some.inj H
                                    go_wp2
                                    go_ret
                                    exact ⟨by first | rfl | (simp; done) | (simp [*]; done), by repeat (first | exact Drawn0.refl _ | apply Drawn0.step)⟩
                                  · rw [if_neg c76] at H
                                    have c76b0 : ((Int.tmod a0 2) == 1) = false := beq_eq_false_iff_ne.mpr c76
                                    have c76b1 : ((Int.tmod a0 2) != 1) = true := bne_iff_ne.mpr c76
                                    obtain rfl := Option.some.inj H
                                    go_wp2
                                    go_ret
                                    exact ⟨by first | rfl | (simp; done) | (simp [*]; done), by repeat (first | exact Drawn0.refl _ | apply Drawn0.step)⟩
                                · rw [if_neg c75] at H
                                  have c75b0 : decide (a0 ≤ 382) = false := decide_eq_false c75
                                  clear c75
                                  obtain rfl := Option.some.inj H
                                  go_wp2
                                  go_ret
                                  exact ⟨by first | rfl | (simp; done) | (simp [*]; done), by repeat (first | exact Drawn0.refl _ | apply Drawn0.step)⟩
                              · rw [if_neg c74] at H
                                have c74b0 : decide (377 ≤ a0) = false := decide_eq_false c74
                                clear c74
                                obtain rfl := Option.some.inj H
                                go_wp2
                                go_ret
                                exact ⟨by first | rfl | (simp; done) | (simp [*]; done), by repeat (first | exact Drawn0.refl _ | apply Drawn0.step)⟩
                          · rw [if_neg c69] at H
                            have c69b0 : decide (313 ≤ a0) = false := decide_eq_false c69
                            clear c69
                            by_cases c77 : a0 ≥ 377
                            · rw [if_pos c77] at H
                              have c77b0 : decide (377 ≤ a0) = true := decide_eq_true c77
                              clear c77
                              by_cases c78 : a0 ≤ 382
                              · rw [if_pos c78] at H
                                have c78b0 : decide (a0 ≤ 382) = true := decide_eq_true c78
                                clear c78
                                by_cases c79 : (Int.tmod a0 2) = 1
                                · rw [if_pos c79] at H
                                  have c79b0 : ((Int.tmod a0 2) == 1) = true := beq_iff_eq.mpr c79
                                  have c79b1 : ((Int.tmod a0 2) != 1) = false := bne_eq_false_iff_eq.mpr c79
                                  clear c79
                                  obtain rfl := Option.some.inj H
                                  go_wp2
                                  go_ret
                                  exact ⟨by first | rfl | (simp; done) | (simp [*]; done), by repeat (first | exact Drawn0.refl _ | apply Drawn0.step)⟩
                                · rw [if_neg c79] at H
                                  have c79b0 : ((Int.tmod a0 2) == 1) = false := beq_eq_false_iff_ne.mpr c79
                                  have c79b1 : ((Int.tmod a0 2) != 1) = true := bne_iff_ne.mpr c79
                                  obtain rfl := Option.some.inj H
                                  go_wp2
                                  go_ret
                                  exact ⟨by first | rfl | (simp; done) | (simp [*]; done), by repeat (first | exact Drawn0.refl _ | apply Drawn0.step)⟩
                              · rw [if_neg c78] at H
                                have c78b0 : decide (a0 ≤ 382) = false := decide_eq_false c78
                                clear c78
                                obtain rfl := Option.some.inj H
                                go_wp2
                                go_ret
                                exact ⟨by first | rfl | (simp; done) | (simp [*]; done), by repeat (first | exact Drawn0.refl _ | apply Drawn0.step)⟩
                            · rw [if_neg c77] at H
                              have c77b0 : decide (377 ≤ a0) = false := decide_eq_false c77
                              clear c77
                              obtain rfl := Option.some.inj H
                              go_wp2
                              go_ret
                              exact ⟨by first | rfl | (simp; done) | (simp [*]; done), by repeat (first | exact Drawn0.refl _ | apply Drawn0.step)⟩
                      · rw [if_neg c56] at H
                        have c56b0 : decide (330 ≤ a0) = false := decide_eq_false c56
                        clear c56
                        by_cases c80 : a0 ≥ 313
                        · rw [if_pos c80] at H
                          have c80b0 : decide (313 ≤ a0) = true := decide_eq_true c80
                          clear c80
                          by_cases c81 : a0 ≤ 328
                          · rw [if_pos c81] at H
                            have c81b0 : decide (a0 ≤ 328) = true := decide_eq_true c81
                            clear c81
                            by_cases c82 : (Int.tmod a0 2) = 1
                            · rw [if_pos c82] at H
                              have c82b0 : ((Int.tmod a0 2) == 1) = true := beq_iff_eq.mpr c82
                              have c82b1 : ((Int.tmod a0 2) != 1) = false := bne_eq_false_iff_eq.mpr c82
                              clear c82
                              obtain rfl := Option.some.inj H
                              go_wp2
                              go_ret
                              exact ⟨by first | rfl | (simp; done) | (simp [*]; done), by repeat (first | exact Drawn0.refl _ | apply Drawn0.step)⟩
                            · rw [if_neg c82] at H
                              have c82b0 : ((Int.tmod a0 2) == 1) = false := beq_eq_false_iff_ne.mpr c82
                              have c82b1 : ((Int.tmod a0 2) != 1) = true := bne_iff_ne.mpr c82
                              by_cases c83 : a0 ≥ 377
                              · rw [if_pos c83] at H
                                have c83b0 : decide (377 ≤ a0) = true := decide_eq_true c83
                                clear c83
                                by_cases c84 : a0 ≤ 382
                                · rw [if_pos c84] at H
                                  have c84b0 : decide (a0 ≤ 382) = true := decide_eq_true c84
                                  clear c84
                                  obtain rfl := Option.some.inj H
                                  go_wp2
                                  go_ret
                                  exact ⟨by first | rfl | (simp; done) | (simp [*]; done), by repeat (first | exact Drawn0.refl _ | apply Drawn0.step)⟩
                                · rw [if_neg c84] at H
                                  have c84b0 : decide (a0 ≤ 382) = false := decide_eq_false c84
                                  clear c84
                                  obtain rfl := Option.some.inj H
                                  go_wp2
                                  go_ret
                                  exact ⟨by first | rfl | (simp; done) | (simp [*]; done), by repeat (first | exact Drawn0.refl _ | apply Drawn0.step)⟩
                              · rw [if_neg c83] at H
                                have c83b0 : decide (377 ≤ a0) = false := decide_eq_false c83
                                clear c83
                                obtain rfl := Option.some.inj H
                                go_wp2
                                go_ret
                                exact ⟨by first | rfl | (simp; done) | (simp [*]; done), by repeat (first | exact Drawn0.refl _ | apply Drawn0.step)⟩
                          · rw [if_neg c81] at H
                            have c81b0 : decide (a0 ≤ 328) = false := decide_eq_false c81
                            clear c81
                            by_cases c85 : a0 ≥ 377
                            · rw [if_pos c85] at H
                              have c85b0 : decide (377 ≤ a0) = true := decide_eq_true c85
                              clear c85
                              by_cases c86 : a0 ≤ 382
                              · rw [if_pos c86] at H
                                have c86b0 : decide (a0 ≤ 382) = true := decide_eq_true c86
                                clear c86
                                by_cases c87 : (Int.tmod a0 2) = 1
                                · rw [if_pos c87] at H
                                  have c87b0 : ((Int.tmod a0 2) == 1) = true := beq_iff_eq.mpr c87
                                  have c87b1 : ((Int.tmod a0 2) != 1) = false := bne_eq_false_iff_eq.mpr c87
                                  clear c87
                                  obtain rfl := Option.some.inj H
                                  go_wp2
                                  go_ret
                                  exact ⟨by first | rfl | (simp; done) | (simp [*]; done), by repeat (first | exact Drawn0.refl _ | apply Drawn0.step)⟩
                                · rw [if_neg c87] at H
                                  have c87b0 : ((Int.tmod a0 2) == 1) = false := beq_eq_false_iff_ne.mpr c87
                                  have c87b1 : ((Int.tmod a0 2) != 1) = true := bne_iff_ne.mpr c87
                                  obtain rfl := Option.some.inj H
                                  go_wp2
                                  go_ret
                                  exact ⟨by first | rfl | (simp; done) | (simp [*]; done), by repeat (first | exact Drawn0.refl _ | apply Drawn0.step)⟩
                              · rw [if_neg c86] at H
                                have c86b0 : decide (a0 ≤ 382) = false := decide_eq_false c86
                                clear c86
                                obtain rfl := Option.some.inj H
                                go_wp2
                                go_ret
                                exact ⟨by first | rfl | (simp; done) | (simp [*]; done), by repeat (first | exact Drawn0.refl _ | apply Drawn0.step)⟩
                            · rw [if_neg c85] at H
                              have c85b0 : decide (377 ≤ a0) = false := decide_eq_false c85
                              clear c85
                              obtain rfl := Option.some.inj H
                              go_wp2
                              go_ret
                              exact ⟨by first | rfl | (simp; done) | (simp [*]; done), by repeat (first | exact Drawn0.refl _ | apply Drawn0.step)⟩
                        · rw [if_neg c80] at H
                          have c80b0 : decide (313 ≤ a0) = false := decide_eq_false c80
                          clear c80
                          by_cases c88 : a0 ≥ 377
                          · rw [if_pos c88] at H
                            have c88b0 : decide (377 ≤ a0) = true := decide_eq_true c88
                            clear c88
                            by_cases c89 : a0 ≤ 382
                            · rw [if_pos c89] at H
                              have c89b0 : decide (a0 ≤ 382) = true := decide_eq_true c89
                              clear c89
                              by_cases c90 : (Int.tmod a0 2) = 1
                              · rw [if_pos c90] at H
                                have c90b0 : ((Int.tmod a0 2) == 1) = true := beq_iff_eq.mpr c90
                                have c90b1 : ((Int.tmod a0 2) != 1) = false := bne_eq_false_iff_eq.mpr c90
                                clear c90
                                obtain rfl := Option.some.inj H
                                go_wp2
                                go_ret
                                exact ⟨by first | rfl | (simp; done) | (simp [*]; done), by repeat (first | exact Drawn0.refl _ | apply Drawn0.step)⟩
                              · rw [if_neg c90] at H
                                have c90b0 : ((Int.tmod a0 2) == 1) = false := beq_eq_false_iff_ne.mpr c90
                                have c90b1 : ((Int.tmod a0 2) != 1) = true := bne_iff_ne.mpr c90
                                obtain rfl := Option.some.inj H
                                go_wp2
                                go_ret
                                exact ⟨by first | rfl | (simp; done) | (simp [*]; done), by repeat (first | exact Drawn0.refl _ | apply Drawn0.step)⟩
                            · rw [if_neg c89] at H
                              have c89b0 : decide (a0 ≤ 382) = false := decide_eq_false c89
                              clear c89
                              obtain rfl := Option.some.inj H
                              go_wp2
                              go_ret
                              exact ⟨by first | rfl | (simp; done) | (simp [*]; done), by repeat (first | exact Drawn0.refl _ | apply Drawn0.step)⟩
                          · rw [if_neg c88] at H
                            have c88b0 : decide (377 ≤ a0) = false := decide_eq_false c88
                            clear c88
                            obtain rfl := Option.some.inj H
                            go_wp2
                            go_ret
                            exact ⟨by first | rfl | (simp; done) | (simp [*]; done), by repeat (first | exact Drawn0.refl _ | apply Drawn0.step)⟩
                · rw [if_neg c17] at H
                  have c17b0 : decide (a0 ≤ 311) = false := decide_eq_false c17
                  clear c17
                  by_cases c91 : a0 ≥ 330
                  · rw [if_pos c91] at H
                    have c91b0 : decide (330 ≤ a0) = true := decide_eq_true c91
                    clear c91
                    by_cases c92 : a0 ≤ 375
                    · rw [if_pos c92] at H
                      have c92b0 : decide (a0 ≤ 375) = true := decide_eq_true c92
                      clear c92
                      by_cases c93 : (Int.tmod a0 2) = 0
                      · rw [if_pos c93] at H
                        have c93b0 : ((Int.tmod a0 2) == 0) = true := beq_iff_eq.mpr c93
                        have c93b1 : ((Int.tmod a0 2) != 0) = false := bne_eq_false_iff_eq.mpr c93
                        clear c93
                        obtain rfl := Option.some.inj H
                        go_wp2
                        go_ret
                        exact ⟨by first | rfl | (simp; done) | (simp [*]; done), by repeat (first | exact Drawn0.refl _ | apply Drawn0.step)⟩
                      · rw [if_neg c93] at H
                        have c93b0 : ((Int.tmod a0 2) == 0) = false := beq_eq_false_iff_ne.mpr c93
                        have c93b1 : ((Int.tmod a0 2) != 0) = true := bne_iff_ne.mpr c93
                        by_cases c94 : a0 ≥ 313
                        · rw [if_pos c94] at H
                          have c94b0 : decide (313 ≤ a0) = true := decide_eq_true c94
                          clear c94
                          by_cases c95 : a0 ≤ 328
                          · rw [if_pos c95] at H
                            have c95b0 : decide (a0 ≤ 328) = true := decide_eq_true c95
                            clear c95
                            by_cases c96 : (Int.tmod a0 2) = 1
                            · rw [if_pos c96] at H
                              have c96b0 : ((Int.tmod a0 2) == 1) = true := beq_iff_eq.mpr c96
                              have c96b1 : ((Int.tmod a0 2) != 1) = false := bne_eq_false_iff_eq.mpr c96
                              clear c96
                              obtain rfl := Option.some.inj H
                              go_wp2
                              go_ret
                              exact ⟨by first | rfl | (simp; done) | (simp [*]; done), by repeat (first | exact Drawn0.refl _ | apply Drawn0.step)⟩
                            · rw [if_neg c96] at H
                              have c96b0 : ((Int.tmod a0 2) == 1) = false := beq_eq_false_iff_ne.mpr c96
                              have c96b1 : ((Int.tmod a0 2) != 1) = true := bne_iff_ne.mpr c96
                              by_cases c97 : a0 ≥ 377
                              · rw [if_pos c97] at H
                                have c97b0 : decide (377 ≤ a0) = true := decide_eq_true c97
                                clear c97
                                by_cases c98 : a0 ≤ 382
                                · rw [if_pos c98] at H
                                  have c98b0 : decide (a0 ≤ 382) = true := decide_eq_true c98
                                  clear c98
                                  obtain rfl := Option.some.inj H
                                  go_wp2
                                  go_ret
                                  exact ⟨by first | rfl | (simp; done) | (simp [*]; done), by repeat (first | exact Drawn0.refl _ | apply Drawn0.step)⟩
                                · rw [if_neg c98] at H
                                  have c98b0 : decide (a0 ≤ 382) = false := decide_eq_false c98
                                  clear c98
                                  obtain rfl := Option.some.inj H
                                  go_wp2
                                  go_ret
                                  exact ⟨by first | rfl | (simp; done) | (simp [*]; done), by repeat (first | exact Drawn0.refl _ | apply Drawn0.step)⟩
                              · rw [if_neg c97] at H
                                have c97b0 : decide (377 ≤ a0) = false := decide_eq_false c97
                                clear c97
                                obtain rfl := Option.some.inj H
                                go_wp2
                                go_ret
                                exact ⟨by first | rfl | (simp; done) | (simp [*]; done), by repeat (first | exact Drawn0.refl _ | apply Drawn0.step)⟩
                          · rw [if_neg c95] at H
                            have c95b0 : decide (a0 ≤ 328) = false := decide_eq_false c95
                            clear c95
                            by_cases c99 : a0 ≥ 377
                            · rw [if_pos c99] at H
                              have c99b0 : decide (377 ≤ a0) = true := decide_eq_true c99
                              clear c99
                              by_cases c100 : a0 ≤ 382
                              · rw [if_pos c100] at H
                                have c100b0 : decide (a0 ≤ 382) = true := decide_eq_true c100
                                clear c100
                                by_cases c101 : (Int.tmod a0 2) = 1
                                · rw [if_pos c101] at H
                                  have c101b0 : ((Int.tmod a0 2) == 1) = true := beq_iff_eq.mpr c101
                                  have c101b1 : ((Int.tmod a0 2) != 1) = false := bne_eq_false_iff_eq.mpr c101
                                  clear c101
                                  obtain rfl := Option.some.inj H
                                  go_wp2
                                  go_ret
                                  exact ⟨by first | rfl | (simp; done) | (simp [*]; done), by repeat (first | exact Drawn0.refl _ | apply Drawn0.step)⟩
                                · rw [if_neg c101] at H
                                  have c101b0 : ((Int.tmod a0 2) == 1) = false := beq_eq_false_iff_ne.mpr c101
                                  have c101b1 : ((Int.tmod a0 2) != 1) = true := bne_iff_ne.mpr c101
                                  obtain rfl := Option.some.inj H
                                  go_wp2
                                  go_ret
                                  exact ⟨by first | rfl | (simp; done) | (simp [*]; done), by repeat (first | exact Drawn0.refl _ | apply Drawn0.step)⟩
                              · rw [if_neg c100] at H
                                have c100b0 : decide (a0 ≤ 382) = false := decide_eq_false c100
                                clear c100
                                obtain rfl := Option.some.inj H
                                go_wp2
                                go_ret
                                exact ⟨by first | rfl | (simp; done) | (simp [*]; done), by repeat (first | exact Drawn0.refl _ | apply Drawn0.step)⟩
                            · rw [if_neg c99] at H
                              have c99b0 : decide (377 ≤ a0) = false := decide_eq_false c99
                              clear c99
                              obtain rfl := Option.some.inj H
                              go_wp2
                              go_ret
                              exact ⟨by first | rfl | (simp; done) | (simp [*]; done), by repeat (first | exact Drawn0.refl _ | apply Drawn0.step)⟩
                        · rw [if_neg c94] at H
                          have c94b0 : decide (313 ≤ a0) = false := decide_eq_false c94
                          clear c94
                          by_cases c102 : a0 ≥ 377
                          · rw [if_pos c102] at H
                            have c102b0 : decide (377 ≤ a0) = true := decide_eq_true c102
                            clear c102
                            by_cases c103 : a0 ≤ 382
                            · rw [if_pos c103] at H
                              have c103b0 : decide (a0 ≤ 382) = true := decide_eq_true c103
                              clear c103
                              by_cases c104 : (Int.tmod a0 2) = 1
                              · rw [if_pos c104] at H
                                have c104b0 : ((Int.tmod a0 2) == 1) = true := beq_iff_eq.mpr c104
                                have c104b1 : ((Int.tmod a0 2) != 1) = false := bne_eq_false_iff_eq.mpr c104
                                clear c104
                                obtain rfl := Option.some.inj H
                                go_wp2
                                go_ret
                                exact ⟨by first | rfl | (simp; done) | (simp [*]; done), by repeat (first | exact Drawn0.refl _ | apply Drawn0.step)⟩
                              · rw [if_neg c104] at H
                                have c104b0 : ((Int.tmod a0 2) == 1) = false := beq_eq_false_iff_ne.mpr c104
                                have c104b1 : ((Int.tmod a0 2) != 1) = true := bne_iff_ne.mpr c104
                                obtain rfl := Option.some.inj H
                                go_wp2
                                go_ret
                                exact ⟨by first | rfl | (simp; done) | (simp [*]; done), by repeat (first | exact Drawn0.refl _ | apply Drawn0.step)⟩
                            · rw [if_neg c103] at H
                              have c103b0 : decide (a0 ≤ 382) = false := decide_eq_false c103
                              clear c103
                              obtain rfl := Option.some.inj H
                              go_wp2
                              go_ret
                              exact ⟨by first | rfl | (simp; done) | (simp [*]; done), by repeat (first | exact Drawn0.refl _ | apply Drawn0.step)⟩
                          · rw [if_neg c102] at H
                            have c102b0 : decide (377 ≤ a0) = false := decide_eq_false c102
                            clear c102
                            obtain rfl := Option.some.inj H
                            go_wp2
                            go_ret
                            exact ⟨by first | rfl | (simp; done) | (simp [*]; done), by repeat (first | exact Drawn0.refl _ | apply Drawn0.step)⟩
                    · rw [if_neg c92] at H
                      have c92b0 : decide (a0 ≤ 375) = false := decide_eq_false c92
                      clear c92
                      by_cases c105 : a0 ≥ 313
                      · rw [if_pos c105] at H
                        have c105b0 : decide (313 ≤ a0) = true := decide_eq_true c105
                        clear c105
                        by_cases c106 : a0 ≤ 328
                        · rw [if_pos c106] at H
                          have c106b0 : decide (a0 ≤ 328) = true := decide_eq_true c106
                          clear c106
                          by_cases c107 : (Int.tmod a0 2) = 1
                          · rw [if_pos c107] at H
                            have c107b0 : ((Int.tmod a0 2) == 1) = true := beq_iff_eq.mpr c107
                            have c107b1 : ((Int.tmod a0 2) != 1) = false := bne_eq_false_iff_eq.mpr c107
                            clear c107
                            obtain rfl := Option.some.inj H
                            go_wp2
                            go_ret
                            exact ⟨by first | rfl | (simp; done) | (simp [*]; done), by repeat (first | exact Drawn0.refl _ | apply Drawn0.step)⟩
                          · rw [if_neg c107] at H
                            have c107b0 : ((Int.tmod a0 2) == 1) = false := beq_eq_false_iff_ne.mpr c107
                            have c107b1 : ((Int.tmod a0 2) != 1) = true := bne_iff_ne.mpr c107
                            by_cases c108 : a0 ≥ 377
                            · rw [if_pos c108] at H
                              have c108b0 : decide (377 ≤ a0) = true := decide_eq_true c108
                              clear c108
                              by_cases c109 : a0 ≤ 382
                              · rw [if_pos c109] at H
                                have c109b0 : decide (a0 ≤ 382) = true := decide_eq_true c109
                                clear c109
                                obtain rfl := Option.some.inj H
                                go_wp2
                                go_ret
                                exact ⟨by first | rfl | (simp; done) | (simp [*]; done), by repeat (first | exact Drawn0.refl _ | apply Drawn0.step)⟩
                              · rw [if_neg c109] at H
                                have c109b0 : decide (a0 ≤ 382) = false := decide_eq_false c109
                                clear c109
                                obtain rfl := Option.some.inj H
                                go_wp2
                                go_ret
                                exact ⟨by first | rfl | (simp; done) | (simp [*]; done), by repeat (first | exact Drawn0.refl _ | apply Drawn0.step)⟩
                            · rw [if_neg c108] at H
                              have c108b0 : decide (377 ≤ a0) = false := decide_eq_false c108
                              clear c108
                              obtain rfl := Option.some.inj H
                              go_wp2
                              go_ret
                              exact ⟨by first | rfl | (simp; done) | (simp [*]; done), by repeat (first | exact Drawn0.refl _ | apply Drawn0.step)⟩
                        · rw [if_neg c106] at H
                          have c106b0 : decide (a0 ≤ 328) = false := decide_eq_false c106
                          clear c106
                          by_cases c110 : a0 ≥ 377
                          · rw [if_pos c110] at H
                            have c110b0 : decide (377 ≤ a0) = true := decide_eq_true c110
                            clear c110
                            by_cases c111 : a0 ≤ 382
                            · rw [if_pos c111] at H
                              have c111b0 : decide (a0 ≤ 382) = true := decide_eq_true c111
                              clear c111
                              by_cases c112 : (Int.tmod a0 2) = 1
                              · rw [if_pos c112] at H
                                have c112b0 : ((Int.tmod a0 2) == 1) = true := beq_iff_eq.mpr c112
                                have c112b1 : ((Int.tmod a0 2) != 1) = false := bne_eq_false_iff_eq.mpr c112
                                clear c112
                                obtain rfl := Option.some.inj H
                                go_wp2
                                go_ret
                                exact ⟨by first | rfl | (simp; done) | (simp [*]; done), by repeat (first | exact Drawn0.refl _ | apply Drawn0.step)⟩
                              · rw [if_neg c112] at H
                                have c112b0 : ((Int.tmod a0 2) == 1) = false := beq_eq_false_iff_ne.mpr c112
                                have c112b1 : ((Int.tmod a0 2) != 1) = true := bne_iff_ne.mpr c112
                                obtain rfl := Option.some.inj H
                                go_wp2
                                go_ret
                                exact ⟨by first | rfl | (simp; done) | (simp [*]; done), by repeat (first | exact Drawn0.refl _ | apply Drawn0.step)⟩
                            · rw [if_neg c111] at H
                              have c111b0 : decide (a0 ≤ 382) = false := decide_eq_false c111
                              clear c111
                              obtain rfl := Option.some.inj H
                              go_wp2
                              go_ret
                              exact ⟨by first | rfl | (simp; done) | (simp [*]; done), by repeat (first | exact Drawn0.refl _ | apply Drawn0.step)⟩
                          · rw [if_neg c110] at H
                            have c110b0 : decide (377 ≤ a0) = false := decide_eq_false c110
                            clear c110
                            obtain rfl := Option.some.inj H
                            go_wp2
                            go_ret
                            exact ⟨by first | rfl | (simp; done) | (simp [*]; done), by repeat (first | exact Drawn0.refl _ | apply Drawn0.step)⟩
                      · rw [if_neg c105] at H
                        have c105b0 : decide (313 ≤ a0) = false := decide_eq_false c105
                        clear c105
                        by_cases c113 : a0 ≥ 377
                        · rw [if_pos c113] at H
                          have c113b0 : decide (377 ≤ a0) = true := decide_eq_true c113
                          clear c113
                          by_cases c114 : a0 ≤ 382
                          · rw [if_pos c114] at H
                            have c114b0 : decide (a0 ≤ 382) = true := decide_eq_true c114
                            clear c114
                            by_cases c115 : (Int.tmod a0 2) = 1
                            · rw [if_pos c115] at H
                              have c115b0 : ((Int.tmod a0 2) == 1) = true := beq_iff_eq.mpr c115
                              have c115b1 : ((Int.tmod a0 2) != 1) = false := bne_eq_false_iff_eq.mpr c115
                              clear c115
                              obtain rfl := Option.some.inj H
                              go_wp2
                              go_ret
                              exact ⟨by first | rfl | (simp; done) | (simp [*]; done), by repeat (first | exact Drawn0.refl _ | apply Drawn0.step)⟩
                            · rw [if_neg c115] at H
                              have c115b0 : ((Int.tmod a0 2) == 1) = false := beq_eq_false_iff_ne.mpr c115
                              have c115b1 : ((Int.tmod a0 2) != 1) = true := bne_iff_ne.mpr c115
                              obtain rfl := Option.some.inj H
                              go_wp2
                              go_ret
                              exact ⟨by first | rfl | (simp; done) | (simp [*]; done), by repeat (first | exact Drawn0.refl _ | apply Drawn0.step)⟩
                          · rw [if_neg c114] at H
                            have c114b0 : decide (a0 ≤ 382) = false := decide_eq_false c114
                            clear c114
                            obtain rfl := Option.some.inj H
                            go_wp2
                            go_ret
                            exact ⟨by first | rfl | (simp; done) | (simp [*]; done), by repeat (first | exact Drawn0.refl _ | apply Drawn0.step)⟩
                        · rw [if_neg c113] at H
                          have c113b0 : decide (377 ≤ a0) = false := decide_eq_false c113
                          clear c113
                          obtain rfl := Option.some.inj H
                          go_wp2
                          go_ret
                          exact ⟨by first | rfl | (simp; done) | (simp [*]; done), by repeat (first | exact Drawn0.refl _ | apply Drawn0.step)⟩
                  · rw [if_neg c91] at H
                    have c91b0 : decide (330 ≤ a0) = false := decide_eq_false c91
                    clear c91
                    by_cases c116 : a0 ≥ 313
                    · rw [if_pos c116] at H
                      have c116b0 : decide (313 ≤ a0) = true := decide_eq_true c116
                      clear c116
                      by_cases c117 : a0 ≤ 328
                      · rw [if_pos c117] at H
                        have c117b0 : decide (a0 ≤ 328) = true := decide_eq_true c117
                        clear c117
                        by_cases c118 : (Int.tmod a0 2) = 1
                        · rw [if_pos c118] at H
                          have c118b0 : ((Int.tmod a0 2) == 1) = true := beq_iff_eq.mpr c118
                          have c118b1 : ((Int.tmod a0 2) != 1) = false := bne_eq_false_iff_eq.mpr c118
                          clear c118
                          obtain rfl := Option.some.inj H
                          go_wp2
                          go_ret
                          exact ⟨by first | rfl | (simp; done) | (simp [*]; done), by repeat (first | exact Drawn0.refl _ | apply Drawn0.step)⟩
                        · rw [if_neg c118] at H
                          have c118b0 : ((Int.tmod a0 2) == 1) = false := beq_eq_false_iff_ne.mpr c118
                          have c118b1 : ((Int.tmod a0 2) != 1) = true := bne_iff_ne.mpr c118
                          by_cases c119 : a0 ≥ 377
                          · rw [if_pos c119] at H
                            have c119b0 : decide (377 ≤ a0) = true := decide_eq_true c119
                            clear c119
                            by_cases c120 : a0 ≤ 382
                            · rw [if_pos c120] at H
                              have c120b0 : decide (a0 ≤ 382) = true := decide_eq_true c120
                              clear c120
                              obtain rfl := Option.some.inj H
                              go_wp2
                              go_ret
                              exact ⟨by first | rfl | (simp; done) | (simp [*]; done), by repeat (first | exact Drawn0.refl _ | apply Drawn0.step)⟩
                            · rw [if_neg c120] at H
                              have c120b0 : decide (a0 ≤ 382) = false := decide_eq_false c120
                              clear c120
                              obtain rfl := Option.some.inj H
                              go_wp2
                              go_ret
                              exact ⟨by first | rfl | (simp; done) | (simp [*]; done), by repeat (first | exact Drawn0.refl _ | apply Drawn0.step)⟩
                          · rw [if_neg c119] at H
                            have c119b0 : decide (377 ≤ a0) = false := decide_eq_false c119
                            clear c119
                            obtain rfl := Option.some.inj H
                            go_wp2
                            go_ret
                            exact ⟨by first | rfl | (simp; done) | (simp [*]; done), by repeat (first | exact Drawn0.refl _ | apply Drawn0.step)⟩
                      · rw [if_neg c117] at H
                        have c117b0 : decide (a0 ≤ 328) = false := decide_eq_false c117
                        clear c117
                        by_cases c121 : a0 ≥ 377
                        · rw [if_pos c121] at H
                          have c121b0 : decide (377 ≤ a0) = true := decide_eq_true c121
                          clear c121
                          by_cases c122 : a0 ≤ 382
                          · rw [if_pos c122] at H
                            have c122b0 : decide (a0 ≤ 382) = true := decide_eq_true c122
                            clear c122
                            by_cases c123 : (Int.tmod a0 2) = 1
                            · rw [if_pos c123] at H
                              have c123b0 : ((Int.tmod a0 2) == 1) = true := beq_iff_eq.mpr c123
                              have c123b1 : ((Int.tmod a0 2) != 1) = false := bne_eq_false_iff_eq.mpr c123
                              clear c123
                              obtain rfl := Option.some.inj H
                              go_wp2
                              go_ret
                              exact ⟨by first | rfl | (simp; done) | (simp [*]; done), by repeat (first | exact Drawn0.refl _ | apply Drawn0.step)⟩
                            · rw [if_neg c123] at H
                              have c123b0 : ((Int.tmod a0 2) == 1) = false := beq_eq_false_iff_ne.mpr c123
                              have c123b1 : ((Int.tmod a0 2) != 1) = true := bne_iff_ne.mpr c123
                              obtain rfl := Option.some.inj H
                              go_wp2
                              go_ret
                              exact ⟨by first | rfl | (simp; done) | (simp [*]; done), by repeat (first | exact Drawn0.refl _ | apply Drawn0.step)⟩
                          · rw [if_neg c122] at H
                            have c122b0 : decide (a0 ≤ 382) = false := decide_eq_false c122
                            clear c122
                            obtain rfl := Option.some.inj H
                            go_wp2
                            go_ret
                            exact ⟨by first | rfl | (simp; done) | (simp [*]; done), by repeat (first | exact Drawn0.refl _ | apply Drawn0.step)⟩
                        · rw [if_neg c121] at H
                          have c121b0 : decide (377 ≤ a0) = false := decide_eq_false c121
                          clear c121
                          obtain rfl := Option.some.inj H
                          go_wp2
                          go_ret
                          exact ⟨by first | rfl | (simp; done) | (simp [*]; done), by repeat (first | exact Drawn0.refl _ | apply Drawn0.step)⟩
                    · rw [if_neg c116] at H
                      have c116b0 : decide (313 ≤ a0) = false := decide_eq_false c116
                      clear c116
                      by_cases c124 : a0 ≥ 377
                      · rw [if_pos c124] at H
                        have c124b0 : decide (377 ≤ a0) = true := decide_eq_true c124
                        clear c124
                        by_cases c125 : a0 ≤ 382
                        · rw [if_pos c125] at H
                          have c125b0 : decide (a0 ≤ 382) = true := decide_eq_true c125
                          clear c125
                          by_cases c126 : (Int.tmod a0 2) = 1
                          · rw [if_pos c126] at H
                            have c126b0 : ((Int.tmod a0 2) == 1) = true := beq_iff_eq.mpr c126
                            have c126b1 : ((Int.tmod a0 2) != 1) = false := bne_eq_false_iff_eq.mpr c126
                            clear c126
                            obtain rfl := Option.some.inj H
                            go_wp2
                            go_ret
                            exact ⟨by first | rfl | (simp; done) | (simp [*]; done), by repeat (first | exact Drawn0.refl _ | apply Drawn0.step)⟩
                          · rw [if_neg c126] at H
                            have c126b0 : ((Int.tmod a0 2) == 1) = false := beq_eq_false_iff_ne.mpr c126
                            have c126b1 : ((Int.tmod a0 2) != 1) = true := bne_iff_ne.mpr c126
                            obtain rfl := Option.some.inj H
                            go_wp2
                            go_ret
                            exact ⟨by first | rfl | (simp; done) | (simp [*]; done), by repeat (first | exact Drawn0.refl _ | apply Drawn0.step)⟩
                        · rw [if_neg c125] at H
                          have c125b0 : decide (a0 ≤ 382) = false := decide_eq_false c125
                          clear c125
                          obtain rfl := Option.some.inj H
                          go_wp2
                          go_ret
                          exact ⟨by first | rfl | (simp; done) | (simp [*]; done), by repeat (first | exact Drawn0.refl _ | apply Drawn0.step)⟩
                      · rw [if_neg c124] at H
                        have c124b0 : decide (377 ≤ a0) = false := decide_eq_false c124
                        clear c124
                        obtain rfl := Option.some.inj H
                        go_wp2
                        go_ret
                        exact ⟨by first | rfl | (simp; done) | (simp [*]; done), by repeat (first | exact Drawn0.refl _ | apply Drawn0.step)⟩
              · rw [if_neg c16] at H
                have c16b0 : decide (256 ≤ a0) = false := decide_eq_false c16
                clear c16
                by_cases c127 : a0 ≥ 330
                · rw [if_pos c127] at H
                  have c127b0 : decide (330 ≤ a0) = true := decide_eq_true c127
                  clear c127
                  by_cases c128 : a0 ≤ 375
                  · rw [if_pos c128] at H
                    have c128b0 : decide (a0 ≤ 375) = true := decide_eq_true c128
                    clear c128
                    by_cases c129 : (Int.tmod a0 2) = 0
                    · rw [if_pos c129] at H
                      have c129b0 : ((Int.tmod a0 2) == 0) = true := beq_iff_eq.mpr c129
                      have c129b1 : ((Int.tmod a0 2) != 0) = false := bne_eq_false_iff_eq.mpr c129
                      clear c129
                      obtain rfl := Option.some.inj H
                      go_wp2
                      go_ret
                      exact ⟨by first | rfl | (simp; done) | (simp [*]; done), by repeat (first | exact Drawn0.refl _ | apply Drawn0.step)⟩
                    · rw [if_neg c129] at H
                      have c129b0 : ((Int.tmod a0 2) == 0) = false := beq_eq_false_iff_ne.mpr c129
                      have c129b1 : ((Int.tmod a0 2) != 0) = true := bne_iff_ne.mpr c129
                      by_cases c130 : a0 ≥ 313
                      · rw [if_pos c130] at H
                        have c130b0 : decide (313 ≤ a0) = true := decide_eq_true c130
                        clear c130
                        by_cases c131 : a0 ≤ 328
                        · rw [if_pos c131] at H
                          have c131b0 : decide (a0 ≤ 328) = true := decide_eq_true c131
                          clear c131
                          by_cases c132 : (Int.tmod a0 2) = 1
                          · rw [if_pos c132] at H
                            have c132b0 : ((Int.tmod a0 2) == 1) = true := beq_iff_eq.mpr c132
                            have c132b1 : ((Int.tmod a0 2) != 1) = false := bne_eq_false_iff_eq.mpr c132
                            clear c132
                            obtain rfl := Option.some.inj H
                            go_wp2
                            go_ret
                            exact ⟨by first | rfl | (simp; done) | (simp [*]; done), by repeat (first | exact Drawn0.refl _ | apply Drawn0.step)⟩
                          · rw [if_neg c132] at H
                            have c132b0 : ((Int.tmod a0 2) == 1) = false := beq_eq_false_iff_ne.mpr c132
                            have c132b1 : ((Int.tmod a0 2) != 1) = true := bne_iff_ne.mpr c132
                            by_cases c133 : a0 ≥ 377
                            · rw [if_pos c133] at H
                              have c133b0 : decide (377 ≤ a0) = true := decide_eq_true c133
                              clear c133
                              by_cases c134 : a0 ≤ 382
                              · rw [if_pos c134] at H
                                have c134b0 : decide (a0 ≤ 382) = true := decide_eq_true c134
                                clear c134
                                obtain rfl := Option.some.inj H
                                go_wp2
                                go_ret
                                exact ⟨by first | rfl | (simp; done) | (simp [*]; done), by repeat (first | exact Drawn0.refl _ | apply Drawn0.step)⟩
                              · rw [if_neg c134] at H
                                have c134b0 : decide (a0 ≤ 382) = false := decide_eq_false c134
                                clear c134
                                obtain rfl := Option.some.inj H
                                go_wp2
                                go_ret
                                exact ⟨by first | rfl | (simp; done) | (simp [*]; done), by repeat (first | exact Drawn0.refl _ | apply Drawn0.step)⟩
                            · rw [if_neg c133] at H
                              have c133b0 : decide (377 ≤ a0) = false := decide_eq_false c133
                              clear c133
                              obtain rfl := Option.some.inj H
                              go_wp2
                              go_ret
                              exact ⟨by first | rfl | (simp; done) | (simp [*]; done), by repeat (first | exact Drawn0.refl _ | apply Drawn0.step)⟩
                        · rw [if_neg c131] at H
                          have c131b0 : decide (a0 ≤ 328) = false := decide_eq_false c131
                          clear c131
                          by_cases c135 : a0 ≥ 377
                          · rw [if_pos c135] at H
                            have c135b0 : decide (377 ≤ a0) = true := decide_eq_true c135
                            clear c135
                            by_cases c136 : a0 ≤ 382
                            · rw [if_pos c136] at H
                              have c136b0 : decide (a0 ≤ 382) = true := decide_eq_true c136
                              clear c136
                              by_cases c137 : (Int.tmod a0 2) = 1
                              · rw [if_pos c137] at H
                                have c137b0 : ((Int.tmod a0 2) == 1) = true := beq_iff_eq.mpr c137
                                have c137b1 : ((Int.tmod a0 2) != 1) = false := bne_eq_false_iff_eq.mpr c137
                                clear c137
                                obtain rfl := Option.some.inj H
                                go_wp2
                                go_ret
                                exact ⟨by first | rfl | (simp; done) | (simp [*]; done), by repeat (first | exact Drawn0.refl _ | apply Drawn0.step)⟩
                              · rw [if_neg c137] at H
                                have c137b0 : ((Int.tmod a0 2) == 1) = false := beq_eq_false_iff_ne.mpr c137
                                have c137b1 : ((Int.tmod a0 2) != 1) = true := bne_iff_ne.mpr c137
                                obtain rfl := Option.some.inj H
                                go_wp2
                                go_ret
                                exact ⟨by first | rfl | (simp; done) | (simp [*]; done), by repeat (first | exact Drawn0.refl _ | apply Drawn0.step)⟩
                            · rw [if_neg c136] at H
                              have c136b0 : decide (a0 ≤ 382) = false := decide_eq_false c136
                              clear c136
                              obtain rfl := Option.some.inj H
                              go_wp2
                              go_ret
                              exact ⟨by first | rfl | (simp; done) | (simp [*]; done), by repeat (first | exact Drawn0.refl _ | apply Drawn0.step)⟩
                          · rw [if_neg c135] at H
                            have c135b0 : decide (377 ≤ a0) = false := decide_eq_false c135
                            clear c135
                            obtain rfl := Option.some.inj H
                            go_wp2
                            go_ret
                            exact ⟨by first | rfl | (simp; done) | (simp [*]; done), by repeat (first | exact Drawn0.refl _ | apply Drawn0.step)⟩
                      · rw [if_neg c130] at H
                        have c130b0 : decide (313 ≤ a0) = false := decide_eq_false c130
                        clear c130
                        by_cases c138 : a0 ≥ 377
                        · rw [if_pos c138] at H
                          have c138b0 : decide (377 ≤ a0) = true := decide_eq_true c138
                          clear c138
                          by_cases c139 : a0 ≤ 382
                          · rw [if_pos c139] at H
                            have c139b0 : decide (a0 ≤ 382) = true := decide_eq_true c139
                            clear c139
                            by_cases c140 : (Int.tmod a0 2) = 1
                            · rw [if_pos c140] at H
                              have c140b0 : ((Int.tmod a0 2) == 1) = true := beq_iff_eq.mpr c140
                              have c140b1 : ((Int.tmod a0 2) != 1) = false := bne_eq_false_iff_eq.mpr c140
                              clear c140
                              obtain rfl := Option.some.inj H
                              go_wp2
                              go_ret
                              exact ⟨by first | rfl | (simp; done) | (simp [*]; done), by repeat (first | exact Drawn0.refl _ | apply Drawn0.step)⟩
                            · rw [if_neg c140] at H
                              have c140b0 : ((Int.tmod a0 2) == 1) = false := beq_eq_false_iff_ne.mpr c140
                              have c140b1 : ((Int.tmod a0 2) != 1) = true := bne_iff_ne.mpr c140
                              obtain rfl := Option.some.inj H
                              go_wp2
                              go_ret
                              exact ⟨by first | rfl | (simp; done) | (simp [*]; done), by repeat (first | exact Drawn0.refl _ | apply Drawn0.step)⟩
                          · rw [if_neg c139] at H
                            have c139b0 : decide (a0 ≤ 382) = false := decide_eq_false c139
                            clear c139
                            obtain rfl := Option.some.inj H
                            go_wp2
                            go_ret
                            exact ⟨by first | rfl | (simp; done) | (simp [*]; done), by repeat (first | exact Drawn0.refl _ | apply Drawn0.step)⟩
                        · rw [if_neg c138] at H
                          have c138b0 : decide (377 ≤ a0) = false := decide_eq_false c138
                          clear c138
                          obtain rfl := Option.some.inj H
                          go_wp2
                          go_ret
                          exact ⟨by first | rfl | (simp; done) | (simp [*]; done), by repeat (first | exact Drawn0.refl _ | apply Drawn0.step)⟩
                  · rw [if_neg c128] at H
                    have c128b0 : decide (a0 ≤ 375) = false := decide_eq_false c128
                    clear c128
                    by_cases c141 : a0 ≥ 313
                    · rw [if_pos c141] at H
                      have c141b0 : decide (313 ≤ a0) = true := decide_eq_true c141
                      clear c141
                      by_cases c142 : a0 ≤ 328
                      · rw [if_pos c142] at H
                        have c142b0 : decide (a0 ≤ 328) = true := decide_eq_true c142
                        clear c142
                        by_cases c143 : (Int.tmod a0 2) = 1
                        · rw [if_pos c143] at H
                          have c143b0 : ((Int.tmod a0 2) == 1) = true := beq_iff_eq.mpr c143
                          have c143b1 : ((Int.tmod a0 2) != 1) = false := bne_eq_false_iff_eq.mpr c143
                          clear c143
                          obtain rfl := Option.some.inj H
                          go_wp2
                          go_ret
                          exact ⟨by first | rfl | (simp; done) | (simp [*]; done), by repeat (first | exact Drawn0.refl _ | apply Drawn0.step)⟩
                        · rw [if_neg c143] at H
                          have c143b0 : ((Int.tmod a0 2) == 1) = false := beq_eq_false_iff_ne.mpr c143
                          have c143b1 : ((Int.tmod a0 2) != 1) = true := bne_iff_ne.mpr c143
                          by_cases c144 : a0 ≥ 377
                          · rw [if_pos c144] at H
                            have c144b0 : decide (377 ≤ a0) = true := decide_eq_true c144
                            clear c144
                            by_cases c145 : a0 ≤ 382
                            · rw [if_pos c145] at H
                              have c145b0 : decide (a0 ≤ 382) = true := decide_eq_true c145
                              clear c145
                              obtain rfl := Option.some.inj H
                              go_wp2
                              go_ret
                              exact ⟨by first | rfl | (simp; done) | (simp [*]; done), by repeat (first | exact Drawn0.refl _ | apply Drawn0.step)⟩
                            · rw [if_neg c145] at H
                              have c145b0 : decide (a0 ≤ 382) = false := decide_eq_false c145
                              clear c145
                              obtain rfl := Option.some.inj H
                              go_wp2
                              go_ret
                              exact ⟨by first | rfl | (simp; done) | (simp [*]; done), by repeat (first | exact Drawn0.refl _ | apply Drawn0.step)⟩
                          · rw [if_neg c144] at H
                            have c144b0 : decide (377 ≤ a0) = false := decide_eq_false c144
                            clear c144
                            obtain rfl := Option.some.inj H
                            go_wp2
                            go_ret
                            exact ⟨by first | rfl | (simp; done) | (simp [*]; done), by repeat (first | exact Drawn0.refl _ | apply Drawn0.step)⟩
                      · rw [if_neg c142] at H
                        have c142b0 : decide (a0 ≤ 328) = false := decide_eq_false c142
                        clear c142
                        by_cases c146 : a0 ≥ 377
                        · rw [if_pos c146] at H
                          have c146b0 : decide (377 ≤ a0) = true := decide_eq_true c146
                          clear c146
                          by_cases c147 : a0 ≤ 382
                          · rw [if_pos c147] at H
                            have c147b0 : decide (a0 ≤ 382) = true := decide_eq_true c147
                            clear c147
                            by_cases c148 : (Int.tmod a0 2) = 1
                            · rw [if_pos c148] at H
                              have c148b0 : ((Int.tmod a0 2) == 1) = true := beq_iff_eq.mpr c148
                              have c148b1 : ((Int.tmod a0 2) != 1) = false := bne_eq_false_iff_eq.mpr c148
                              clear c148
                              obtain rfl := Option.some.inj H
                              go_wp2
                              go_ret
                              exact ⟨by first | rfl | (simp; done) | (simp [*]; done), by repeat (first | exact Drawn0.refl _ | apply Drawn0.step)⟩
                            · rw [if_neg c148] at H
                              have c148b0 : ((Int.tmod a0 2) == 1) = false := beq_eq_false_iff_ne.mpr c148
                              have c148b1 : ((Int.tmod a0 2) != 1) = true := bne_iff_ne.mpr c148
                              obtain rfl := Option.some.inj H
                              go_wp2
                              go_ret
                              exact ⟨by first | rfl | (simp; done) | (simp [*]; done), by repeat (first | exact Drawn0.refl _ | apply Drawn0.step)⟩
                          · rw [if_neg c147] at H
                            have c147b0 : decide (a0 ≤ 382) = false := decide_eq_false c147
                            clear c147
                            obtain rfl := Option.some.inj H
                            go_wp2
                            go_ret
                            exact ⟨by first | rfl | (simp; done) | (simp [*]; done), by repeat (first | exact Drawn0.refl _ | apply Drawn0.step)⟩
                        · rw [if_neg c146] at H
                          have c146b0 : decide (377 ≤ a0) = false := decide_eq_false c146
                          clear c146
                          obtain rfl := Option.some.inj H
                          go_wp2
                          go_ret
                          exact ⟨by first | rfl | (simp; done) | (simp [*]; done), by repeat (first | exact Drawn0.refl _ | apply Drawn0.step)⟩
                    · rw [if_neg c141] at H
                      have c141b0 : decide (313 ≤ a0) = false := decide_eq_false c141
                      clear c141
                      by_cases c149 : a0 ≥ 377
                      · rw [if_pos c149] at H
                        have c149b0 : decide (377 ≤ a0) = true := decide_eq_true c149
                        clear c149
                        by_cases c150 : a0 ≤ 382
                        · rw [if_pos c150] at H
                          have c150b0 : decide (a0 ≤ 382) = true := decide_eq_true c150
                          clear c150
                          by_cases c151 : (Int.tmod a0 2) = 1
                          · rw [if_pos c151] at H
                            have c151b0 : ((Int.tmod a0 2) == 1) = true := beq_iff_eq.mpr c151
                            have c151b1 : ((Int.tmod a0 2) != 1) = false := bne_eq_false_iff_eq.mpr c151
                            clear c151
                            obtain rfl := Option.some.inj H
                            go_wp2
                            go_ret
                            exact ⟨by first | rfl | (simp; done) | (simp [*]; done), by repeat (first | exact Drawn0.refl _ | apply Drawn0.step)⟩
                          · rw [if_neg c151] at H
                            have c151b0 : ((Int.tmod a0 2) == 1) = false := beq_eq_false_iff_ne.mpr c151
                            have c151b1 : ((Int.tmod a0 2) != 1) = true := bne_iff_ne.mpr c151
                            obtain rfl := Option.some.inj H
                            go_wp2
                            go_ret
                            exact ⟨by first | rfl | (simp; done) | (simp [*]; done), by repeat (first | exact Drawn0.refl _ | apply Drawn0.step)⟩
                        · rw [if_neg c150] at H
                          have c150b0 : decide (a0 ≤ 382) = false := decide_eq_false c150
                          clear c150
                          obtain rfl := Option.some.inj H
                          go_wp2
                          go_ret
                          exact ⟨by first | rfl | (simp; done) | (simp [*]; done), by repeat (first | exact Drawn0.refl _ | apply Drawn0.step)⟩
                      · rw [if_neg c149] at H
                        have c149b0 : decide (377 ≤ a0) = false := decide_eq_false c149
                        clear c149
                        obtain rfl := Option.some.inj H
                        go_wp2
                        go_ret
                        exact ⟨by first | rfl | (simp; done) | (simp [*]; done), by repeat (first | exact Drawn0.refl _ | apply Drawn0.step)⟩
                · rw [if_neg c127] at H
                  have c127b0 : decide (330 ≤ a0) = false := decide_eq_false c127
                  clear c127
                  by_cases c152 : a0 ≥ 313
                  · rw [if_pos c152] at H
                    have c152b0 : decide (313 ≤ a0) = true := decide_eq_true c152
                    clear c152
                    by_cases c153 : a0 ≤ 328
                    · rw [if_pos c153] at H
                      have c153b0 : decide (a0 ≤ 328) = true := decide_eq_true c153
                      clear c153
                      by_cases c154 : (Int.tmod a0 2) = 1
                      · rw [if_pos c154] at H
                        have c154b0 : ((Int.tmod a0 2) == 1) = true := beq_iff_eq.mpr c154
                        have c154b1 : ((Int.tmod a0 2) != 1) = false := bne_eq_false_iff_eq.mpr c154
                        clear c154
                        obtain rfl := Option.some.inj H
                        go_wp2
                        go_ret
                        exact ⟨by first | rfl | (simp; done) | (simp [*]; done), by repeat (first | exact Drawn0.refl _ | apply Drawn0.step)⟩
                      · rw [if_neg c154] at H
                        have c154b0 : ((Int.tmod a0 2) == 1) = false := beq_eq_false_iff_ne.mpr c154
                        have c154b1 : ((Int.tmod a0 2) != 1) = true := bne_iff_ne.mpr c154
                        by_cases c155 : a0 ≥ 377
                        · rw [if_pos c155] at H
                          have c155b0 : decide (377 ≤ a0) = true := decide_eq_true c155
                          clear c155
                          by_cases c156 : a0 ≤ 382
                          · rw [if_pos c156] at H
                            have c156b0 : decide (a0 ≤ 382) = true := decide_eq_true c156
                            clear c156
                            obtain rfl := Option.some.inj H
                            go_wp2
                            go_ret
                            exact ⟨by first | rfl | (simp; done) | (simp [*]; done), by repeat (first | exact Drawn0.refl _ | apply Drawn0.step)⟩
                          · rw [if_neg c156] at H
                            have c156b0 : decide (a0 ≤ 382) = false := decide_eq_false c156
                            clear c156
                            obtain rfl := Option.some.inj H
                            go_wp2
                            go_ret
                            exact ⟨by first | rfl | (simp; done) | (simp [*]; done), by repeat (first | exact Drawn0.refl _ | apply Drawn0.step)⟩
                        · rw [if_neg c155] at H
                          have c155b0 : decide (377 ≤ a0) = false := decide_eq_false c155
                          clear c155
                          obtain rfl := Option.some.inj H
                          go_wp2
                          go_ret
                          exact ⟨by first | rfl | (simp; done) | (simp [*]; done), by repeat (first | exact Drawn0.refl _ | apply Drawn0.step)⟩
                    · rw [if_neg c153] at H
                      have c153b0 : decide (a0 ≤ 328) = false := decide_eq_false c153
                      clear c153
                      by_cases c157 : a0 ≥ 377
                      · rw [if_pos c157] at H
                        have c157b0 : decide (377 ≤ a0) = true := decide_eq_true c157
                        clear c157
                        by_cases c158 : a0 ≤ 382
                        · rw [if_pos c158] at H
                          have c158b0 : decide (a0 ≤ 382) = true := decide_eq_true c158
                          clear c158
                          by_cases c159 : (Int.tmod a0 2) = 1
                          · rw [if_pos c159] at H
                            have c159b0 : ((Int.tmod a0 2) == 1) = true := beq_iff_eq.mpr c159
                            have c159b1 : ((Int.tmod a0 2) != 1) = false := bne_eq_false_iff_eq.mpr c159
                            clear c159
                            obtain rfl := Option.some.inj H
                            go_wp2
                            go_ret
                            exact ⟨by first | rfl | (simp; done) | (simp [*]; done), by repeat (first | exact Drawn0.refl _ | apply Drawn0.step)⟩
                          · rw [if_neg c159] at H
                            have c159b0 : ((Int.tmod a0 2) == 1) = false := beq_eq_false_iff_ne.mpr c159
                            have c159b1 : ((Int.tmod a0 2) != 1) = true := bne_iff_ne.mpr c159
                            obtain rfl := Option.some.inj H
                            go_wp2
                            go_ret
                            exact ⟨by first | rfl | (simp; done) | (simp [*]; done), by repeat (first | exact Drawn0.refl _ | apply Drawn0.step)⟩
                        · rw [if_neg c158] at H
                          have c158b0 : decide (a0 ≤ 382) = false := decide_eq_false c158
                          clear c158
                          obtain rfl := Option.some.inj H
                          go_wp2
                          go_ret
                          exact ⟨by first | rfl | (simp; done) | (simp [*]; done), by repeat (first | exact Drawn0.refl _ | apply Drawn0.step)⟩
                      · rw [if_neg c157] at H
                        have c157b0 : decide (377 ≤ a0) = false := decide_eq_false c157
                        clear c157
                        obtain rfl := Option.some.inj H
                        go_wp2
                        go_ret
                        exact ⟨by first | rfl | (simp; done) | (simp [*]; done), by repeat (first | exact Drawn0.refl _ | apply Drawn0.step)⟩
                  · rw [if_neg c152] at H
                    have c152b0 : decide (313 ≤ a0) = false := decide_eq_false c152
                    clear c152
                    by_cases c160 : a0 ≥ 377
                    · rw [if_pos c160] at H
                      have c160b0 : decide (377 ≤ a0) = true := decide_eq_true c160
                      clear c160
                      by_cases c161 : a0 ≤ 382
                      · rw [if_pos c161] at H
                        have c161b0 : decide (a0 ≤ 382) = true := decide_eq_true c161
                        clear c161
                        by_cases c162 : (Int.tmod a0 2) = 1
                        · rw [if_pos c162] at H
                          have c162b0 : ((Int.tmod a0 2) == 1) = true := beq_iff_eq.mpr c162
                          have c162b1 : ((Int.tmod a0 2) != 1) = false := bne_eq_false_iff_eq.mpr c162
                          clear c162
                          obtain rfl := Option.some.inj H
                          go_wp2
                          go_ret
                          exact ⟨by first | rfl | (simp; done) | (simp [*]; done), by repeat (first | exact Drawn0.refl _ | apply Drawn0.step)⟩
                        · rw [if_neg c162] at H
                          have c162b0 : ((Int.tmod a0 2) == 1) = false := beq_eq_false_iff_ne.mpr c162
                          have c162b1 : ((Int.tmod a0 2) != 1) = true := bne_iff_ne.mpr c162
                          obtain rfl := Option.some.inj H
                          go_wp2
                          go_ret
                          exact ⟨by first | rfl | (simp; done) | (simp [*]; done), by repeat (first | exact Drawn0.refl _ | apply Drawn0.step)⟩
                      · rw [if_neg c161] at H
                        have c161b0 : decide (a0 ≤ 382) = false := decide_eq_false c161
                        clear c161
                        obtain rfl := Option.some.inj H
                        go_wp2
                        go_ret
                        exact ⟨by first | rfl | (simp; done) | (simp [*]; done), by repeat (first | exact Drawn0.refl _ | apply Drawn0.step)⟩
                    · rw [if_neg c160] at H
                      have c160b0 : decide (377 ≤ a0) = false := decide_eq_false c160
                      clear c160
                      obtain rfl := Option.some.inj H
                      go_wp2
                      go_ret
                      exact ⟨by first | rfl | (simp; done) | (simp [*]; done), by repeat (first | exact Drawn0.refl _ | apply Drawn0.step)⟩
    · rw [if_neg c6] at H
      have c6b0 : (t105 == t104) = false := beq_eq_false_iff_ne.mpr c6
      have c6b1 : (t105 != t104) = true := bne_iff_ne.mpr c6
      obtain rfl := Option.some.inj H
      go_enter Try.func3, Try.ntmps3
      go_wp2_with (first | ((with_reducible refine gate_callee (f := 11) rfl ?_); refine goesL_ (some 5) rfl rfl Try.func11 (by kernel_rfl) rfl #[] rfl (by (try simp only [List.map_toArray, List.map_cons, List.map_nil]); first | done | rfl | (simp only [List.length_drop, List.length_take]; rfl)) ?_; (with_reducible refine (catchwordlaw02_head.calls k  true _ A2.out).mono ?_); rintro e w' ⟨rfl, ⟨nd, rfl⟩⟩; refine ⟨_, rfl, ?_⟩) | ((with_reducible refine gate_callee (f := 12) rfl ?_); refine goesL_ (some 8) rfl rfl Try.func12 (by kernel_rfl) rfl #[.int .i32 a0] rfl (by (try simp only [List.map_toArray, List.map_cons, List.map_nil]); first | done | rfl | (simp only [List.length_drop, List.length_take]; rfl)) ?_; (with_reducible refine (utf_Low.calls k a0 t104 _ A4.out).mono ?_); rintro e w' ⟨rfl, ⟨nd, rfl⟩⟩; refine ⟨_, rfl, ?_⟩) | ((with_reducible refine gate_callee (f := 12) rfl ?_); refine goesL_ (some 10) rfl rfl Try.func12 (by kernel_rfl) rfl #[.int .i32 t104] rfl (by (try simp only [List.map_toArray, List.map_cons, List.map_nil]); first | done | rfl | (simp only [List.length_drop, List.length_take]; rfl)) ?_; (with_reducible refine (utf_Low.calls k t104 t105 _ A5.out).mono ?_); rintro e w' ⟨rfl, ⟨nd, rfl⟩⟩; refine ⟨_, rfl, ?_⟩))
      go_ret
      exact ⟨by first | rfl | (simp; done) | (simp [*]; done), by repeat (first | exact Drawn0.refl _ | apply Drawn0.step)⟩
  · replace c3 := Bool.eq_false_iff.mpr c3
    subst c3
    have H1 : (some false) = some r := by rw [if_neg (show ¬ (false = true) by decide)] at H; exact H
    clear H
    have H := H1
    clear H1
    obtain rfl := Option.some.inj H
    go_enter Try.func3, Try.ntmps3
    go_wp2_with (first | ((with_reducible refine gate_callee (f := 11) rfl ?_); refine goesL_ (some 5) rfl rfl Try.func11 (by kernel_rfl) rfl #[] rfl (by (try simp only [List.map_toArray, List.map_cons, List.map_nil]); first | done | rfl | (simp only [List.length_drop, List.length_take]; rfl)) ?_; (with_reducible refine (catchwordlaw02_head.calls k  false _ A2.out).mono ?_); rintro e w' ⟨rfl, ⟨nd, rfl⟩⟩; refine ⟨_, rfl, ?_⟩))
    go_ret
    exact ⟨by first | rfl | (simp; done) | (simp [*]; done), by repeat (first | exact Drawn0.refl _ | apply Drawn0.step)⟩

/-- THE ONE PURE STATEMENT of catchwordlaw02_UtfLows: yours. -/
def catchwordlaw02_UtfLows.Pure : Prop := ∀ (a0 : Int), (Lit.int .i32 a0).wf = true → ∃ k, catchwordlaw02_UtfLows.f k a0 = some true
theorem catchwordlaw02_UtfLows.walk (P : catchwordlaw02_UtfLows.Pure) (a0 : Int) (w : World) (w0 : (Lit.int .i32 a0).wf = true) :
    Calls Try.prog 3 #[.int .i32 a0] w fun e w' => e = .returned (.bool true) ∧ Below w.heap.size w w' := by
  obtain ⟨k, h⟩ := P a0 w0
  refine (catchwordlaw02_UtfLows.calls k a0 true w h).mono ?_
  rintro e w' ⟨rfl, hd⟩
  exact ⟨rfl, hd.below⟩

end Go.Proofs.Ytkhhmjikohonfaa.PUtfLows
