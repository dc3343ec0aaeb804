/- UtfLetters, the plain law: for every number of 32 bits Letter is what the statement's table says, and the same of the small sign and of the one without marks. -/
import Derived.DataShut
import Derived.Test.YtkhhmjikohonfaaPUtfLettersx3
namespace Go.Proofs.Ytkhhmjikohonfaa.Pure
open Go.RowKit Go.Proofs.Ytkhhmjikohonfaa.PUtfLetters Go.Proofs.YtkhhmjikohonfaaW.PrintWords Go.Proofs.YtkhhmjikohonfaaW.PrintLast

set_option maxRecDepth 100000 in
theorem letters_mid : ∀ n : Fin 400, catchwordlaw02_UtfLetters.f 12 (n.val : Int) = some true := by
  decide +kernel

theorem lowL_lo (r : Int) (h : r < 65) : utf_Low.f 12 r = some r := by
  have h1 : ¬ r ≥ 65 := by omega
  have h2 : ¬ r ≥ 192 := by omega
  have h3 : ¬ r ≥ 256 := by omega
  have h4 : ¬ r ≥ 330 := by omega
  have h5 : ¬ r ≥ 313 := by omega
  have h6 : ¬ r ≥ 377 := by omega
  have h7 : ¬ r = 376 := by omega
  simp [utf_Low.f, utf_Low.j0, utf_Low.j1, utf_Low.j2, utf_Low.j3, utf_Low.j4, utf_Low.j5, h1, h2, h3, h4, h5, h6, h7]

theorem lowL_hi (r : Int) (h : 384 ≤ r) : utf_Low.f 12 r = some r := by
  have h1 : r ≥ 65 := by omega
  have h1' : ¬ r ≤ 90 := by omega
  have h2 : r ≥ 192 := by omega
  have h2' : ¬ r ≤ 222 := by omega
  have h3 : r ≥ 256 := by omega
  have h3' : ¬ r ≤ 311 := by omega
  have h4 : r ≥ 330 := by omega
  have h4' : ¬ r ≤ 375 := by omega
  have h5 : r ≥ 313 := by omega
  have h5' : ¬ r ≤ 328 := by omega
  have h6 : r ≥ 377 := by omega
  have h6' : ¬ r ≤ 382 := by omega
  have h7 : ¬ r = 376 := by omega
  simp [utf_Low.f, utf_Low.j0, utf_Low.j1, utf_Low.j2, utf_Low.j3, utf_Low.j4, utf_Low.j5, h1, h1', h2, h2', h3, h3', h4, h4', h5, h5', h6, h6', h7]

theorem plainL_lo (r : Int) (h : r < 192) : utf_Plain.f r = some r := by
  unfold utf_Plain.f
  rw [if_pos h]

theorem plainL_hi (r : Int) (h : 384 ≤ r) (h' : r ≤ 2147483647) : utf_Plain.f r = some r := by
  have e : wrap64 (wrap64 r - 192) = r - 192 := by unfold wrap64; omega
  unfold utf_Plain.f
  rw [if_neg (by omega), e, if_pos (by omega)]

theorem headL_true : catchwordlaw02_head.f 12 = some true := by decide +kernel

theorem letter_lo (r : Int) (h : r < 48) : utf_Letter.f 12 r = some false := by
  have h0 : r < 128 := by omega
  have h1 : ¬ r ≥ 48 := by omega
  have h2 : ¬ r ≥ 65 := by omega
  have h3 : ¬ r ≥ 97 := by omega
  simp [utf_Letter.f, h0, h1, h2, h3]

theorem UtfLetters : catchwordlaw02_UtfLetters.Pure := by
  intro r hw
  refine ⟨12, ?_⟩
  have hb : -2147483648 ≤ r ∧ r ≤ 2147483647 := by
    have h := (Lit.wf_int_iff .i32 r).1 hw
    have h1 : IntKind.i32.min = -2147483648 := by decide
    have h2 : IntKind.i32.max = 2147483647 := by decide
    rw [h1, h2] at h
    exact h
  by_cases hlo : r < 48
  · have e := lowL_lo r (by omega)
    have e2 := plainL_lo r (by omega)
    have e3 := letter_lo r hlo
    have h0 : r < 128 := by omega
    have h1 : ¬ r ≥ 48 := by omega
    have h2 : ¬ r ≥ 65 := by omega
    have h3 : ¬ r ≥ 97 := by omega
    simp [catchwordlaw02_UtfLetters.f, headL_true, e, e2, e3, catchwordlaw02_UtfLetters.j0, h0, h1, h2, h3]
  · by_cases hhi : 384 ≤ r
    · have e := lowL_hi r hhi
      have e2 := plainL_hi r hhi hb.2
      have h0 : ¬ r < 128 := by omega
      have h0' : ¬ r < 192 := by omega
      have h1 : ¬ r = 215 := by omega
      have h2 : ¬ r = 247 := by omega
      by_cases a1 : r ≥ 8192 <;> by_cases a2 : r ≤ 8303 <;> by_cases a3 : r ≥ 12288 <;> by_cases a4 : r ≤ 12292 <;> by_cases a5 : r ≥ 12296 <;> by_cases a6 : r ≤ 12320 <;> first
        | (exfalso; omega)
        | simp [catchwordlaw02_UtfLetters.f, headL_true, e, e2, catchwordlaw02_UtfLetters.j0, utf_Letter.f, utf_Letter.j0, h0, h0', h1, h2, a1, a2, a3, a4, a5, a6]
    · have := letters_mid ⟨r.toNat, by omega⟩
      have e : ((r.toNat : Nat) : Int) = r := by omega
      simpa [e] using this

end Go.Proofs.Ytkhhmjikohonfaa.Pure
