/- Whatever the input, MatchLimits returns true, and what was handed in reads as before. Printed. -/
import Derived.Test.YtihbdelgoapeoaaRows
import Derived.Test.YtihbdelgoapeoaaGL0
import Derived.Test.YtihbdelgoapeoaaTMatchLimits
import Derived.WalkKit
import Derived.ProofKit
import Derived.OpenShut
import Derived.ShutString
import Derived.ChangeOld
import Derived.Below
import Derived.SizedLaws
namespace Go.Proofs.Ytihbdelgoapeoaa.matchLimits
open Go Go.ChangeShapes Go.WideShapes Go.ChangeAt Go.RowKit K
set_option linter.unusedVariables false
set_option linter.unusedSimpArgs false
theorem own : ownKnob Try.prog.godebug = none := by kernel_rfl
theorem laidOut : laidOutB Try.prog = true := by kernel_rfl
set_option maxRecDepth 100000 in
set_option maxHeartbeats 4000000 in
theorem lifted (os : Os) (started : os.Started) (H : Type) (enc : TypeId × Value → H) :
    ReturnsInHanded {} Try.checked os 5 .any (Rows.matchLimitsSpec.pre6 enc Try.prog Try.f5 Rows.matchLimitsRow.domain false) (Rows.matchLimitsSpec.post enc Try.prog Try.f5 false true false false) := by
  refine returnsInHanded_of_change_sized (C := Try.checked) own started (by kernel_rfl) Try.func5
    (ChangeSpec.witness6 (enc := enc) (C := Try.checked) false ⟨#[], #[.int .i64 0, .int .i64 0], []⟩ 8 (by kernel_rfl) (by kernel_rfl) (by kernel_rfl) (by kernel_rfl)) ?_
  intro W base args ds gs before hval0 hW hcnd hsz0 _
  have hval : ∀ (j : Nat) t v, Try.f5.params[j]? = some t → args[j]? = some v → Value.okWide Try.prog W .any base t v := hval0
  have hW' := hW
  obtain ⟨p, q, hA0, hV, rfl, hfz, hnd⟩ := hW
  have hA : DataW.TrodAll enc Try.prog W 0 (fun _ => true) true Try.f5.params.toList args.toList ds p := hA0
  rw [Try.params5] at hA hval
  obtain ⟨v0, vs0, d0, ds0, p0, q0, hargs0, rfl, rfl, h0, r0⟩ := trodAll_cons hA
  obtain ⟨v1, vs1, d1, ds1, p1, q1, hargs1, rfl, rfl, h1, r1⟩ := trodAll_cons r0
  subst hargs1
  obtain ⟨rfl, rfl, rfl⟩ := trodAll_nil r1
  obtain rfl : args = #[v0, v1] := by cases args; simp_all
  obtain ⟨rfl, rfl⟩ := trodVars_none hV
  obtain ⟨n0, rfl⟩ := okWide_int (show Try.prog.underlying 3 = some _ by with_unfolding_all rfl) (hval 0 3 v0 rfl rfl)
  obtain ⟨u0, x0, hr0, hq0, hrel0⟩ := arg_one (opens_i64 (by with_unfolding_all rfl)) h0 rfl one_eI
  obtain ⟨n1, rfl⟩ := okWide_int (show Try.prog.underlying 3 = some _ by with_unfolding_all rfl) (hval 1 3 v1 rfl rfl)
  obtain ⟨u1, x1, hr1, hq1, hrel1⟩ := arg_one (opens_i64 (by with_unfolding_all rfl)) h1 rfl one_eI
  refine (CallE.calls (law12_MatchLimits_ok (T.MatchLimits x0 x1 hq0 hq1) hr0 hr1) (rels_cons hrel0 (rels_cons hrel1 rels_nil))).mono fun e W' ⟨he, bel⟩ => ?_
  subst he
  exact ⟨_, rfl, _, _, _, [], _, [], hW', trodAll_mk1 (shut_bool (show Try.prog.underlying 4 = some _ by with_unfolding_all rfl) _), (trodAll_cons_mk (Below.trod laidOut (by kernel_rfl) (of_decide_eq_true (by kernel_rfl)) h0 bel (fun x hx => by simpa using hW'.lt x (by simp [hx]))) (trodAll_cons_mk (Below.trod laidOut (by kernel_rfl) (of_decide_eq_true (by kernel_rfl)) h1 bel (fun x hx => by simpa using hW'.lt x (by simp [hx]))) trodAll_mk0)), rfl, bel.frame _, fun h => by cases h⟩
theorem over : Rows.matchLimitsRow.holds Try.pinned (OpenSpec.ofChange Rows.matchLimitsSpec) :=
  OpenClaim.holds_of_wide 5 Try.f5 rfl rfl rfl rfl rfl rfl rfl ⟨rfl, rfl, rfl, rfl, rfl⟩ rfl rfl rfl rfl rfl (by kernel_rfl) Try.func5 (by kernel_rfl)
    (of_decide_eq_true (by kernel_rfl)) (by unfold Func.isWrapper; first | (rw [if_pos (by decide +kernel)]; kernel_rfl) | (rw [if_neg (by decide +kernel)]; exact ⟨rfl, rfl⟩))
    (fun os started H enc _ => lifted os started H enc)
end Go.Proofs.Ytihbdelgoapeoaa.matchLimits
namespace Go.Proofs.Ytihbdelgoapeoaa
/-- The row, under a short name, for the claim. -/
theorem matchLimits_holds : Rows.MatchLimitsSaid := matchLimits.over
#print axioms matchLimits_holds
end Go.Proofs.Ytihbdelgoapeoaa
