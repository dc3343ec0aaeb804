/- UtfPlains, the plain law: for every number of 32 bits Plain of it is it or a letter of the first 128, as great or small as it was. -/
import Derived.DataShut
import Derived.Test.YtkhhmjikohonfaaPUtfPlainsx2
namespace Go.Proofs.Ytkhhmjikohonfaa.Pure
open Go.RowKit Go.Proofs.Ytkhhmjikohonfaa.PUtfPlains Go.Proofs.YtkhhmjikohonfaaW.PrintWords Go.Proofs.YtkhhmjikohonfaaW.PrintLast

set_option maxRecDepth 100000 in
theorem plains_mid : ∀ n : Fin 400, catchwordlaw02_UtfPlains.f 12 (n.val : Int) = some true := by
  decide +kernel

theorem plain_lo (r : Int) (h : r < 192) : utf_Plain.f r = some r := by
  unfold utf_Plain.f
  rw [if_pos h]

theorem plain_hi (r : Int) (h : 384 ≤ r) (h' : r ≤ 2147483647) : utf_Plain.f r = some r := by
  have e : wrap64 (wrap64 r - 192) = r - 192 := by unfold wrap64; omega
  unfold utf_Plain.f
  rw [if_neg (by omega), e, if_pos (by omega)]

theorem headP_true : catchwordlaw02_head.f 12 = some true := by decide +kernel

theorem UtfPlains : catchwordlaw02_UtfPlains.Pure := by
  intro r hw
  refine ⟨12, ?_⟩
  have hb : -2147483648 ≤ r ∧ r ≤ 2147483647 := by
    have h := (Lit.wf_int_iff .i32 r).1 hw
    have h1 : IntKind.i32.min = -2147483648 := by decide
    have h2 : IntKind.i32.max = 2147483647 := by decide
    rw [h1, h2] at h
    exact h
  by_cases hlo : r < 192
  · have e := plain_lo r hlo
    simp [catchwordlaw02_UtfPlains.f, headP_true, e]
  · by_cases hhi : 384 ≤ r
    · have e := plain_hi r hhi hb.2
      simp [catchwordlaw02_UtfPlains.f, headP_true, e]
    · have := plains_mid ⟨r.toNat, by omega⟩
      have e : ((r.toNat : Nat) : Int) = r := by omega
      simpa [e] using this

end Go.Proofs.Ytkhhmjikohonfaa.Pure
