/- The types of the statements' arguments, opened. -/
import Derived.Test.YtfgibfbgklkgbaaProg
import Derived.Test.YtfgibfbgklkgbaaLoopData
namespace Go.Um
open Go.Proofs Go.RowKit
theorem opT3 : OpT Try.prog 3 Int := opInt Try.underlying3
theorem opT32 : OpT Try.prog 32 (List Int) := opList Try.underlying32 opT3 (by kernel_rfl) (by kernel_rfl)
theorem opT23 : OpT Try.prog 23 (List (List Int)) := opList Try.underlying23 opT32 (by kernel_rfl) (by kernel_rfl)
theorem opT34 : OpT Try.prog 34 LRow := opLRow Try.underlying34 rfl rfl rfl opT32 opT3 opT3 (by kernel_rfl) (by kernel_rfl) (by kernel_rfl) (by kernel_rfl) rfl rfl rfl
theorem opT22 : OpT Try.prog 22 (List LRow) := opList Try.underlying22 opT34 (by kernel_rfl) (by kernel_rfl)
theorem opT25 : OpT Try.prog 25 Jump := opJump Try.underlying25 rfl rfl opT22 opT23 (by kernel_rfl) (by kernel_rfl) (by kernel_rfl) rfl rfl
theorem opT40 : OpT Try.prog 40 (List Jump) := opList Try.underlying40 opT25 (by kernel_rfl) (by kernel_rfl)
theorem opT42 : OpT Try.prog 42 Loop := opLoop Try.underlying42 rfl rfl rfl rfl rfl opT32 opT32 opT22 opT40 opT22 (by kernel_rfl) (by kernel_rfl) (by kernel_rfl) (by kernel_rfl) (by kernel_rfl) (by kernel_rfl) rfl rfl rfl rfl rfl
theorem laidOut_ : laidOutB Try.prog = true := by kernel_rfl
end Go.Um
