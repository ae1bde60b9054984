/- The types of the statements' arguments, opened. -/
import Derived.Test.YtkhpaklglggagaaProg
import Derived.Test.YtkhpaklglggagaaAutoData
namespace Go.Um
open Go.Proofs Go.RowKit
theorem opT3 : OpT Try.prog 3 Int := opInt Try.underlying3
theorem opT22 : OpT Try.prog 22 (List Int) := opList Try.underlying22 opT3 (by kernel_rfl) (by kernel_rfl)
theorem opT27 : OpT Try.prog 27 (List (List Int)) := opList Try.underlying27 opT22 (by kernel_rfl) (by kernel_rfl)
theorem opT32 : OpT Try.prog 32 (List Bool) := opList Try.underlying32 (opBool Try.underlying4) (by kernel_rfl) (by kernel_rfl)
theorem opT36 : OpT Try.prog 36 Auto := opAuto3 Try.underlying36 rfl rfl rfl opT3 opT27 opT32 (by kernel_rfl) (by kernel_rfl) (by kernel_rfl) (by kernel_rfl) rfl rfl rfl
theorem opT48 : OpT Try.prog 48 (List Auto) := opList Try.underlying48 opT36 (by kernel_rfl) (by kernel_rfl)
theorem laidOut_ : laidOutB Try.prog = true := by kernel_rfl
end Go.Um
