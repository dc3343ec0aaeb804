/- UtfLows, the plain law: Low of every sign is what the statement's table says, and Low of that is the same; for every number of 32 bits. -/
import Derived.Test.YtkhhmjikohonfaaPUtfLowsx2
namespace Go.Proofs.Ytkhhmjikohonfaa.Pure
open Go.RowKit Go.Proofs.Ytkhhmjikohonfaa.PUtfLows Go.Proofs.YtkhhmjikohonfaaW.PrintWords Go.Proofs.YtkhhmjikohonfaaW.PrintLast

set_option maxRecDepth 100000 in
theorem lows_mid : ∀ n : Fin 400, catchwordlaw02_UtfLows.f 12 (n.val : Int) = some true := by
  decide +kernel

theorem low_lo (r : Int) (h : r < 65) : utf_Low.f 12 r = some r := by
  have h1 : ¬ r ≥ 65 := by omega
  have h2 : ¬ r ≥ 192 := by omega
  have h3 : ¬ r ≥ 256 := by omega
  have h4 : ¬ r ≥ 330 := by omega
  have h5 : ¬ r ≥ 313 := by omega
  have h6 : ¬ r ≥ 377 := by omega
  have h7 : ¬ r = 376 := by omega
  simp [utf_Low.f, utf_Low.j0, utf_Low.j1, utf_Low.j2, utf_Low.j3, utf_Low.j4, utf_Low.j5, h1, h2, h3, h4, h5, h6, h7]

theorem low_hi (r : Int) (h : 384 ≤ r) : utf_Low.f 12 r = some r := by
  have h1 : r ≥ 65 := by omega
  have h1' : ¬ r ≤ 90 := by omega
  have h2 : r ≥ 192 := by omega
  have h2' : ¬ r ≤ 222 := by omega
  have h3 : r ≥ 256 := by omega
  have h3' : ¬ r ≤ 311 := by omega
  have h4 : r ≥ 330 := by omega
  have h4' : ¬ r ≤ 375 := by omega
  have h5 : r ≥ 313 := by omega
  have h5' : ¬ r ≤ 328 := by omega
  have h6 : r ≥ 377 := by omega
  have h6' : ¬ r ≤ 382 := by omega
  have h7 : ¬ r = 376 := by omega
  simp [utf_Low.f, utf_Low.j0, utf_Low.j1, utf_Low.j2, utf_Low.j3, utf_Low.j4, utf_Low.j5, h1, h1', h2, h2', h3, h3', h4, h4', h5, h5', h6, h6', h7]

theorem head_true : catchwordlaw02_head.f 12 = some true := by decide +kernel

theorem UtfLows : catchwordlaw02_UtfLows.Pure := by
  intro r _
  refine ⟨12, ?_⟩
  by_cases hlo : r < 65
  · have e := low_lo r hlo
    have h1 : ¬ r ≥ 65 := by omega
    have h2 : ¬ r ≥ 192 := by omega
    have h3 : ¬ r ≥ 256 := by omega
    have h4 : ¬ r ≥ 330 := by omega
    have h5 : ¬ r ≥ 313 := by omega
    have h6 : ¬ r ≥ 377 := by omega
    have h7 : ¬ r = 376 := by omega
    simp [catchwordlaw02_UtfLows.f, head_true, e, catchwordlaw02_UtfLows.j0, h1, h2, h3, h4, h5, h6, h7]
  · by_cases hhi : 384 ≤ r
    · have e := low_hi r hhi
      have h1 : r ≥ 65 := by omega
      have h1' : ¬ r ≤ 90 := by omega
      have h2 : r ≥ 192 := by omega
      have h2' : ¬ r ≤ 222 := by omega
      have h3 : r ≥ 256 := by omega
      have h3' : ¬ r ≤ 311 := by omega
      have h4 : r ≥ 330 := by omega
      have h4' : ¬ r ≤ 375 := by omega
      have h5 : r ≥ 313 := by omega
      have h5' : ¬ r ≤ 328 := by omega
      have h6 : r ≥ 377 := by omega
      have h6' : ¬ r ≤ 382 := by omega
      have h7 : ¬ r = 376 := by omega
      simp [catchwordlaw02_UtfLows.f, head_true, e, catchwordlaw02_UtfLows.j0, h1, h1', h2, h2', h3, h3', h4, h4', h5, h5', h6, h6', h7]
    · have := lows_mid ⟨r.toNat, by omega⟩
      have e : ((r.toNat : Nat) : Int) = r := by omega
      simpa [e] using this

end Go.Proofs.Ytkhhmjikohonfaa.Pure
