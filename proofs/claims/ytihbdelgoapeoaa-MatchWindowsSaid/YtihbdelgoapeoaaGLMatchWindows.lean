/- Whatever the input, MatchWindows returns true, and what was handed in reads as before. Printed. -/
import Derived.Test.YtihbdelgoapeoaaRows
import Derived.Test.YtihbdelgoapeoaaGL0
import Derived.Test.YtihbdelgoapeoaaTMatchWindows
import Derived.WalkKit
import Derived.ProofKit
import Derived.OpenShut
import Derived.ShutString
import Derived.ChangeOld
import Derived.Below
import Derived.SizedLaws
namespace Go.Proofs.Ytihbdelgoapeoaa.matchWindows
open Go Go.ChangeShapes Go.WideShapes Go.ChangeAt Go.RowKit K
set_option linter.unusedVariables false
set_option linter.unusedSimpArgs false
theorem own : ownKnob Try.prog.godebug = none := by kernel_rfl
theorem laidOut : laidOutB Try.prog = true := by kernel_rfl
set_option maxRecDepth 100000 in
set_option maxHeartbeats 4000000 in
theorem lifted (os : Os) (started : os.Started) (H : Type) (enc : TypeId × Value → H) :
    ReturnsInHanded {} Try.checked os 10 .any (Rows.matchWindowsSpec.pre6 enc Try.prog Try.f10 Rows.matchWindowsRow.domain false) (Rows.matchWindowsSpec.post enc Try.prog Try.f10 false true false false) := by
  refine returnsInHanded_of_change_sized (C := Try.checked) own started (by kernel_rfl) Try.func10
    (ChangeSpec.witness6 (enc := enc) (C := Try.checked) false ⟨#[], #[.slice none 0 0, .slice none 0 0, .slice none 0 0, .int .i64 0, .int .i64 0], []⟩ 8 (by kernel_rfl) (by kernel_rfl) (by kernel_rfl) (by kernel_rfl)) ?_
  intro W base args ds gs before hval0 hW hcnd hsz0 _
  have hval : ∀ (j : Nat) t v, Try.f10.params[j]? = some t → args[j]? = some v → Value.okWide Try.prog W .any base t v := hval0
  have hW' := hW
  obtain ⟨p, q, hA0, hV, rfl, hfz, hnd⟩ := hW
  have hA : DataW.TrodAll enc Try.prog W 0 (fun _ => true) true Try.f10.params.toList args.toList ds p := hA0
  rw [Try.params10] at hA hval
  obtain ⟨v0, vs0, d0, ds0, p0, q0, hargs0, rfl, rfl, h0, r0⟩ := trodAll_cons hA
  obtain ⟨v1, vs1, d1, ds1, p1, q1, hargs1, rfl, rfl, h1, r1⟩ := trodAll_cons r0
  subst hargs1
  obtain ⟨v2, vs2, d2, ds2, p2, q2, hargs2, rfl, rfl, h2, r2⟩ := trodAll_cons r1
  subst hargs2
  obtain ⟨v3, vs3, d3, ds3, p3, q3, hargs3, rfl, rfl, h3, r3⟩ := trodAll_cons r2
  subst hargs3
  obtain ⟨v4, vs4, d4, ds4, p4, q4, hargs4, rfl, rfl, h4, r4⟩ := trodAll_cons r3
  subst hargs4
  obtain ⟨rfl, rfl, rfl⟩ := trodAll_nil r4
  obtain rfl : args = #[v0, v1, v2, v3, v4] := by cases args; simp_all
  obtain ⟨rfl, rfl⟩ := trodVars_none hV
  obtain ⟨a0, l0, c0, rfl⟩ := okWide_slice (show Try.prog.underlying 22 = some _ by with_unfolding_all rfl) (hval 0 22 v0 rfl rfl)
  obtain ⟨u0, x0, hr0, hq0, hrel0⟩ := arg_one (opens_slice (by with_unfolding_all rfl) (by with_unfolding_all rfl) opens_match_Match) h0 rfl one_eL
  obtain ⟨a1, l1, c1, rfl⟩ := okWide_slice (show Try.prog.underlying 54 = some _ by with_unfolding_all rfl) (hval 1 54 v1 rfl rfl)
  obtain ⟨u1, x1, hr1, hq1, hrel1⟩ := arg_one (opens_slice (by with_unfolding_all rfl) (by with_unfolding_all rfl) (opens_i64 (by with_unfolding_all rfl))) h1 rfl one_eL
  obtain ⟨a2, l2, c2, rfl⟩ := okWide_slice (show Try.prog.underlying 54 = some _ by with_unfolding_all rfl) (hval 2 54 v2 rfl rfl)
  obtain ⟨u2, x2, hr2, hq2, hrel2⟩ := arg_one (opens_slice (by with_unfolding_all rfl) (by with_unfolding_all rfl) (opens_i64 (by with_unfolding_all rfl))) h2 rfl one_eL
  obtain ⟨n3, rfl⟩ := okWide_int (show Try.prog.underlying 3 = some _ by with_unfolding_all rfl) (hval 3 3 v3 rfl rfl)
  obtain ⟨u3, x3, hr3, hq3, hrel3⟩ := arg_one (opens_i64 (by with_unfolding_all rfl)) h3 rfl one_eI
  obtain ⟨n4, rfl⟩ := okWide_int (show Try.prog.underlying 3 = some _ by with_unfolding_all rfl) (hval 4 3 v4 rfl rfl)
  obtain ⟨u4, x4, hr4, hq4, hrel4⟩ := arg_one (opens_i64 (by with_unfolding_all rfl)) h4 rfl one_eI
  refine (CallE.calls (law12_MatchWindows_ok (T.MatchWindows x0 x1 x2 x3 x4 hq0 hq1 hq2 hq3 hq4) hr0 hr1 hr2 hr3 hr4) (rels_cons hrel0 (rels_cons hrel1 (rels_cons hrel2 (rels_cons hrel3 (rels_cons hrel4 rels_nil)))))).mono fun e W' ⟨he, bel⟩ => ?_
  subst he
  exact ⟨_, rfl, _, _, _, [], _, [], hW', trodAll_mk1 (shut_bool (show Try.prog.underlying 4 = some _ by with_unfolding_all rfl) _), (trodAll_cons_mk (Below.trod laidOut (by kernel_rfl) (of_decide_eq_true (by kernel_rfl)) h0 bel (fun x hx => by simpa using hW'.lt x (by simp [hx]))) (trodAll_cons_mk (Below.trod laidOut (by kernel_rfl) (of_decide_eq_true (by kernel_rfl)) h1 bel (fun x hx => by simpa using hW'.lt x (by simp [hx]))) (trodAll_cons_mk (Below.trod laidOut (by kernel_rfl) (of_decide_eq_true (by kernel_rfl)) h2 bel (fun x hx => by simpa using hW'.lt x (by simp [hx]))) (trodAll_cons_mk (Below.trod laidOut (by kernel_rfl) (of_decide_eq_true (by kernel_rfl)) h3 bel (fun x hx => by simpa using hW'.lt x (by simp [hx]))) (trodAll_cons_mk (Below.trod laidOut (by kernel_rfl) (of_decide_eq_true (by kernel_rfl)) h4 bel (fun x hx => by simpa using hW'.lt x (by simp [hx]))) trodAll_mk0))))), rfl, bel.frame _, fun h => by cases h⟩
theorem over : Rows.matchWindowsRow.holds Try.pinned (OpenSpec.ofChange Rows.matchWindowsSpec) :=
  OpenClaim.holds_of_wide 10 Try.f10 rfl rfl rfl rfl rfl rfl rfl ⟨rfl, rfl, rfl, rfl, rfl⟩ rfl rfl rfl rfl rfl (by kernel_rfl) Try.func10 (by kernel_rfl)
    (of_decide_eq_true (by kernel_rfl)) (by unfold Func.isWrapper; first | (rw [if_pos (by decide +kernel)]; kernel_rfl) | (rw [if_neg (by decide +kernel)]; exact ⟨rfl, rfl⟩))
    (fun os started H enc _ => lifted os started H enc)
end Go.Proofs.Ytihbdelgoapeoaa.matchWindows
namespace Go.Proofs.Ytihbdelgoapeoaa
/-- The row, under a short name, for the claim. -/
theorem matchWindows_holds : Rows.MatchWindowsSaid := matchWindows.over
#print axioms matchWindows_holds
end Go.Proofs.Ytihbdelgoapeoaa
