/- Whatever the input, MatchOrders returns true, and what was handed in reads as before. Printed. -/
import Derived.Test.YtihbdelgoapeoaaRows
import Derived.Test.YtihbdelgoapeoaaGL0
import Derived.Test.YtihbdelgoapeoaaTMatchOrders
import Derived.WalkKit
import Derived.ProofKit
import Derived.OpenShut
import Derived.ShutString
import Derived.ChangeOld
import Derived.Below
import Derived.SizedLaws
namespace Go.Proofs.Ytihbdelgoapeoaa.matchOrders
open Go Go.ChangeShapes Go.WideShapes Go.ChangeAt Go.RowKit K
set_option linter.unusedVariables false
set_option linter.unusedSimpArgs false
theorem own : ownKnob Try.prog.godebug = none := by kernel_rfl
theorem laidOut : laidOutB Try.prog = true := by kernel_rfl
set_option maxRecDepth 100000 in
set_option maxHeartbeats 4000000 in
theorem lifted (os : Os) (started : os.Started) (H : Type) (enc : TypeId × Value → H) :
    ReturnsInHanded {} Try.checked os 6 .any (Rows.matchOrdersSpec.pre6 enc Try.prog Try.f6 Rows.matchOrdersRow.domain false) (Rows.matchOrdersSpec.post enc Try.prog Try.f6 false true false false) := by
  refine returnsInHanded_of_change_sized (C := Try.checked) own started (by kernel_rfl) Try.func6
    (ChangeSpec.witness6 (enc := enc) (C := Try.checked) false ⟨#[], #[.slice none 0 0], []⟩ 8 (by kernel_rfl) (by kernel_rfl) (by kernel_rfl) (by kernel_rfl)) ?_
  intro W base args ds gs before hval0 hW hcnd hsz0 _
  have hval : ∀ (j : Nat) t v, Try.f6.params[j]? = some t → args[j]? = some v → Value.okWide Try.prog W .any base t v := hval0
  have hW' := hW
  obtain ⟨p, q, hA0, hV, rfl, hfz, hnd⟩ := hW
  have hA : DataW.TrodAll enc Try.prog W 0 (fun _ => true) true Try.f6.params.toList args.toList ds p := hA0
  rw [Try.params6] at hA hval
  obtain ⟨v0, vs0, d0, ds0, p0, q0, hargs0, rfl, rfl, h0, r0⟩ := trodAll_cons hA
  obtain ⟨rfl, rfl, rfl⟩ := trodAll_nil r0
  obtain rfl : args = #[v0] := by cases args; simp_all
  obtain ⟨rfl, rfl⟩ := trodVars_none hV
  obtain ⟨a0, l0, c0, rfl⟩ := okWide_slice (show Try.prog.underlying 22 = some _ by with_unfolding_all rfl) (hval 0 22 v0 rfl rfl)
  obtain ⟨u0, x0, hr0, hq0, hrel0⟩ := arg_one (opens_slice (by with_unfolding_all rfl) (by with_unfolding_all rfl) opens_match_Match) h0 rfl one_eL
  refine (CallE.calls (law12_MatchOrders_ok (T.MatchOrders x0 hq0) hr0) (rels_cons hrel0 rels_nil)).mono fun e W' ⟨he, bel⟩ => ?_
  subst he
  exact ⟨_, rfl, _, _, _, [], _, [], hW', trodAll_mk1 (shut_bool (show Try.prog.underlying 4 = some _ by with_unfolding_all rfl) _), (trodAll_cons_mk (Below.trod laidOut (by kernel_rfl) (of_decide_eq_true (by kernel_rfl)) h0 bel (fun x hx => by simpa using hW'.lt x (by simp [hx]))) trodAll_mk0), rfl, bel.frame _, fun h => by cases h⟩
theorem over : Rows.matchOrdersRow.holds Try.pinned (OpenSpec.ofChange Rows.matchOrdersSpec) :=
  OpenClaim.holds_of_wide 6 Try.f6 rfl rfl rfl rfl rfl rfl rfl ⟨rfl, rfl, rfl, rfl, rfl⟩ rfl rfl rfl rfl rfl (by kernel_rfl) Try.func6 (by kernel_rfl)
    (of_decide_eq_true (by kernel_rfl)) (by unfold Func.isWrapper; first | (rw [if_pos (by decide +kernel)]; kernel_rfl) | (rw [if_neg (by decide +kernel)]; exact ⟨rfl, rfl⟩))
    (fun os started H enc _ => lifted os started H enc)
end Go.Proofs.Ytihbdelgoapeoaa.matchOrders
namespace Go.Proofs.Ytihbdelgoapeoaa
/-- The row, under a short name, for the claim. -/
theorem matchOrders_holds : Rows.MatchOrdersSaid := matchOrders.over
#print axioms matchOrders_holds
end Go.Proofs.Ytihbdelgoapeoaa
