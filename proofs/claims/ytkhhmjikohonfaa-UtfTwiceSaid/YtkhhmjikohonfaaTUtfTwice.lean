/- UtfTwice, plainly. -/
import Derived.Test.YtkhhmjikohonfaaTM
namespace Go.Proofs.Ytkhhmjikohonfaa.T
open Go F
set_option linter.unusedVariables false

theorem UtfTwice (s : Str) (hs : s.length ≤ 9223372036854775807) : F.law02_UtfTwice s = some true := by
  unfold F.law02_UtfTwice
  simp only [head_ok, Option.bind_some, Bool.not_true, Bool.false_eq_true, if_false]
  by_cases hl : (s.length : Int) > 200
  · simp [hl]
  · simp only [hl, decide_false, Bool.false_eq_true, if_false]
    have fl : ∀ r, isSign r → F.utf_Low r = some (lowZ r) := fun r h => (facts h).1
    have fp : ∀ r, isSign r → F.utf_Plain r = some (plainZ r) := fun r h => (facts h).2.1
    have sl : ∀ r, isSign r → isSign (lowZ r) := fun r h => (facts h).2.2.1
    have sp : ∀ r, isSign r → isSign (plainZ r) := fun r h => (facts h).2.2.2.1
    have n1 := mp_len lowZ s
    have n2 := mp_len plainZ s
    have n3 := mp_len plainZ (mp lowZ s)
    rw [map_eq fl (by omega), Option.bind_some, map_eq fp (by omega), Option.bind_some, map_eq fp (by omega), Option.bind_some, map_eq fl (by omega), Option.bind_some, map_eq fl (by omega), map_eq fp (by omega)]
    rw [mp_mp sl, mp_mp sp, mp_mp (fun r h => sp _ (sl r h)), mp_mp (fun r h => sp _ (sl r h))]
    have c1 : mp (fun r => plainZ (lowZ r)) s = mp (fun r => lowZ (plainZ r)) s := mp_congr (fun r h => (facts h).2.2.2.2.2.2) s
    have c2 : mp (fun r => lowZ (plainZ (lowZ r))) s = mp (fun r => plainZ (lowZ r)) s := mp_congr (fun r h => by rw [(facts h).2.2.2.2.2.2, (facts (sp r h)).2.2.2.2.1]) s
    have c3 : mp (fun r => plainZ (plainZ (lowZ r))) s = mp (fun r => plainZ (lowZ r)) s := mp_congr (fun r h => (facts (sl r h)).2.2.2.2.2.1) s
    rw [c2, c3, c1]
    simp
end Go.Proofs.Ytkhhmjikohonfaa.T
