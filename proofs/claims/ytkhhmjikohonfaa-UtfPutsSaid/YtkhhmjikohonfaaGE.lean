/- How the program's types are laid. Printed. -/
import Derived.Test.YtkhhmjikohonfaaKKG
import Derived.Test.YtkhhmjikohonfaaProg
import Derived.KernelRfl
import Derived.Test.YtkhhmjikohonfaaGP
namespace Go.Proofs.Ytkhhmjikohonfaa.K
open Go Go.RowKit F
set_option maxRecDepth 100000
set_option maxHeartbeats 4000000
set_option linter.unusedVariables false
set_option linter.unusedSimpArgs false
theorem appT30_30 : AppT Try.prog eY 30 30 := ⟨_, _, _, _, by with_unfolding_all rfl, by with_unfolding_all rfl, .inl ⟨_, rfl⟩, by with_unfolding_all rfl, by with_unfolding_all rfl, by with_unfolding_all rfl, by decide, by with_unfolding_all rfl, by with_unfolding_all exact Nat.le_of_ble_eq_true rfl⟩
theorem en11 : enters Try.prog 11 = true := by kernel_rfl
theorem en12 : enters Try.prog 12 = true := by kernel_rfl
theorem en13 : enters Try.prog 13 = true := by kernel_rfl
theorem en15 : enters Try.prog 15 = true := by kernel_rfl
theorem en16 : enters Try.prog 16 = true := by kernel_rfl
theorem en17 : enters Try.prog 17 = true := by kernel_rfl
theorem en18 : enters Try.prog 18 = true := by kernel_rfl
theorem en19 : enters Try.prog 19 = true := by kernel_rfl
theorem en20 : enters Try.prog 20 = true := by kernel_rfl
theorem en21 : enters Try.prog 21 = true := by kernel_rfl
theorem en22 : enters Try.prog 22 = true := by kernel_rfl
theorem en23 : enters Try.prog 23 = true := by kernel_rfl
end Go.Proofs.Ytkhhmjikohonfaa.K
