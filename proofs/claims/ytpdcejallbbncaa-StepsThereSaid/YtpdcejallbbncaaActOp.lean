/- The types of the statements' arguments, opened. -/
import Derived.Test.YtpdcejallbbncaaProg
import Derived.Test.YtpdcejallbbncaaActData
namespace Go.Um
open Go.Proofs Go.RowKit
theorem opT3 : OpT Try.prog 3 Int := opInt Try.underlying3
theorem opT22 : OpT Try.prog 22 (List Int) := opList Try.underlying22 opT3 (by kernel_rfl) (by kernel_rfl)
theorem opT29 : OpT Try.prog 29 (List Bool) := opList Try.underlying29 (opBool Try.underlying4) (by kernel_rfl) (by kernel_rfl)
theorem opT37 : OpT Try.prog 37 Act := opAct Try.underlying37 rfl rfl rfl rfl opT22 opT22 opT22 opT22 (by kernel_rfl) (by kernel_rfl) (by kernel_rfl) (by kernel_rfl) (by kernel_rfl) rfl rfl rfl rfl
theorem opT23 : OpT Try.prog 23 (List Act) := opList Try.underlying23 opT37 (by kernel_rfl) (by kernel_rfl)
theorem opT25 : OpT Try.prog 25 Quest := opQuest Try.underlying25 rfl rfl rfl rfl opT3 opT22 opT22 opT23 (by kernel_rfl) (by kernel_rfl) (by kernel_rfl) (by kernel_rfl) (by kernel_rfl) rfl rfl rfl rfl
theorem laidOut_ : laidOutB Try.prog = true := by kernel_rfl
end Go.Um
