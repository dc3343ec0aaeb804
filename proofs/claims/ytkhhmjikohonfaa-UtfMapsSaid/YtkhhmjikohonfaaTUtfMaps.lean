/- UtfMaps, plainly. -/
import Derived.Test.YtkhhmjikohonfaaTM
namespace Go.Proofs.Ytkhhmjikohonfaa.T
open Go F
set_option linter.unusedVariables false
set_option linter.unusedSimpArgs false

theorem maps_go (s : Str) : ∀ x p q : Str, x.length + s.length ≤ 1000 → p.length + 4 * s.length ≤ 1000000 → q.length + s.length ≤ 1000000 →
    F.law02_UtfMaps_l1 (x ++ s) (p, q, (x.length : Int)) = some (p ++ mp lowZ s, q ++ mp (fun _ => -1) s) := by
  induction s using toks with
  | h0 =>
    intro x p q _ _ _
    unfold F.law02_UtfMaps_l1
    have e : F.law02_UtfMaps_s1 (x ++ []) (p, q, (x.length : Int)) = some (.inr (p, q)) := by
      unfold F.law02_UtfMaps_s1
      simp
    rw [iter_eq, e, mp_nil, mp_nil]
    simp
  | h1 a t h ih =>
    intro x p q h1 h2 h3
    simp only [List.length_cons] at h1 h2 h3
    have e : F.law02_UtfMaps_s1 (x ++ a :: t) (p, q, (x.length : Int)) = some (.inl (p ++ [a], q ++ [a], ((x ++ [a]).length : Int))) := by
      unfold F.law02_UtfMaps_s1
      have g1 : (x.length : Int) < ((x ++ a :: t).length : Int) := by simp only [List.length_append, List.length_cons]; omega
      simp only [g1, decide_true, if_true]
      rw [lsub_drop, Option.bind_some, next_none h, Option.bind_some]
      simp only [beq_self_eq_true, if_true]
      rw [wi64 (by omega) (by omega)]
      have g2 := lsub_nat (x ++ a :: t) x.length (x.length + 1) (by omega) (by simp)
      have g3 : ((x ++ a :: t).take (x.length + 1)).drop x.length = [a] := by
        rw [List.take_append]
        simp
      rw [g3] at g2
      rw [show (x.length : Int) + 1 = ((x.length + 1 : Nat) : Int) by omega, g2]
      simp only [Option.bind_some]
      rw [lapp_ok (by simp [maxL]; omega), Option.bind_some, lapp_ok (by simp [maxL]; omega), Option.bind_some]
      simp
    have h5 := ih (x ++ [a]) (p ++ [a]) (q ++ [a]) (by simp; omega) (by simp; omega) (by simp; omega)
    rw [List.append_assoc, List.singleton_append] at h5
    unfold F.law02_UtfMaps_l1 at h5 ⊢
    rw [iter_eq, e, mp_raw h, mp_raw h, Option.bind_some]
    simp only [h5, List.append_assoc, List.singleton_append]
  | h2 r t h ih =>
    intro x p q h1 h2 h3
    have hp := enc_pos r
    have hl := enc_le r
    have hq := enc_le (lowZ r)
    have hs := (facts h).2.2.1
    simp only [List.length_append] at h1 h2 h3
    have e : F.law02_UtfMaps_s1 (x ++ (enc r ++ t)) (p, q, (x.length : Int)) = some (.inl (p ++ enc (lowZ r), q, ((x ++ enc r).length : Int))) := by
      unfold F.law02_UtfMaps_s1
      have g1 : (x.length : Int) < ((x ++ (enc r ++ t)).length : Int) := by simp only [List.length_append]; omega
      simp only [g1, decide_true, if_true]
      rw [lsub_drop, Option.bind_some, next_some (dec_enc h t), Option.bind_some]
      have hz : (((enc r).length : Int) == 0) = false := by simp; intro h; rw [h] at hp; simp at hp
      simp only [hz, Bool.false_eq_true, if_false]
      rw [(facts h).1, Option.bind_some, bytes_eq hs, Option.bind_some, lapp_ok (by simp only [maxL]; omega), Option.bind_some]
      rw [wi64 (by omega) (by omega)]
      simp
    have h5 := ih (x ++ enc r) (p ++ enc (lowZ r)) q (by simp; omega) (by simp; omega) (by omega)
    rw [List.append_assoc] at h5
    unfold F.law02_UtfMaps_l1 at h5 ⊢
    rw [iter_eq, e, mp_sign h, mp_sign h, Option.bind_some, show pt (-1) = [] from rfl, show pt (lowZ r) = enc (lowZ r) from if_pos hs]
    simp only [h5, List.append_assoc, List.nil_append]
open Classical in
theorem UtfMaps (s : Str) (hs : s.length ≤ 9223372036854775807) : F.law02_UtfMaps s = some true := by
  unfold F.law02_UtfMaps
  simp only [head_ok, Option.bind_some, Bool.not_true, Bool.false_eq_true, if_false]
  by_cases hl : (s.length : Int) > 200
  · simp [hl]
  · simp only [hl, decide_false, Bool.false_eq_true, if_false]
    have fl : ∀ r, isSign r → F.utf_Low r = some (lowZ r) := fun r h => (facts h).1
    have sl : ∀ r, isSign r → isSign (lowZ r) := fun r h => (facts h).2.2.1
    have n1 := mp_len lowZ s
    have m1 : F.utf_Map s (fun z0 => F.law02_UtfMaps_1 z0) = some (mp (fun r => r) s) := map_eq (fun r _ => rfl) (by omega)
    have m2 : F.utf_Map s (fun z0 => F.law02_UtfMaps_2 z0) = some (mp (fun _ => -1) s) := map_eq (fun r _ => rfl) (by omega)
    rw [m1, Option.bind_some, map_eq fl (by omega), Option.bind_some, map_eq fl (by omega), Option.bind_some, m2, Option.bind_some]
    have g := maps_go s [] [] [] (by simp; omega) (by simp; omega) (by simp; omega)
    simp only [List.nil_append, List.length_nil] at g
    rw [show ((0 : Nat) : Int) = 0 from rfl] at g
    rw [g]
    have c1 : mp (fun r => lowZ (lowZ r)) s = mp lowZ s := mp_congr (fun r h => (facts h).2.2.2.2.1) s
    rw [mp_mp sl, c1, mp_id, right_eq]
    simp only [Option.bind_some, beq_self_eq_true, Bool.and_self, if_true]
    have key : (((mp (fun _ => -1) s).length : Int) == 0) = decide (Signs s) := by
      rw [Bool.eq_iff_iff]
      simp [mp_gone]
    rw [key]
    simp
end Go.Proofs.Ytkhhmjikohonfaa.T
