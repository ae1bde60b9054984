import Derived.Test.YtacphjgolmolmaaProg
import Derived.Test.YtacphjgolmolmaaAskOp
import Derived.Test.YtacphjgolmolmaaUmArrDownB
namespace Go.Um
open Go.Proofs Go.RowKit
theorem opT77 : OpT Try.prog 77 Cell := opCell Try.underlying77 rfl rfl opT3 opT3 (by kernel_rfl) (by kernel_rfl) (by kernel_rfl) rfl rfl
theorem opT67 : OpT Try.prog 67 (List Cell) := opList Try.underlying67 opT77 (by kernel_rfl) (by kernel_rfl)
theorem opT66 : OpT Try.prog 66 Frac := opFrac Try.underlying66 rfl rfl opT3 opT3 (by kernel_rfl) (by kernel_rfl) (by kernel_rfl) rfl rfl
theorem opT69 : OpT Try.prog 69 Val := opVal Try.underlying69 rfl rfl rfl opT66 opT67 opT3 (by kernel_rfl) (by kernel_rfl) (by kernel_rfl) (by kernel_rfl) rfl rfl rfl
theorem opT74 : OpT Try.prog 74 Entry := opEntry Try.underlying74 rfl rfl opT24 opT69 (by kernel_rfl) (by kernel_rfl) (by kernel_rfl) rfl rfl
theorem opT64 : OpT Try.prog 64 (List Entry) := opList Try.underlying64 opT74 (by kernel_rfl) (by kernel_rfl)
theorem opT71 : OpT Try.prog 71 Meaning := opMeaning Try.underlying71 rfl rfl opT64 opT69 (by kernel_rfl) (by kernel_rfl) (by kernel_rfl) rfl rfl
theorem opT45 : OpT Try.prog 45 (List Meaning) := opList Try.underlying45 opT71 (by kernel_rfl) (by kernel_rfl)
theorem opT47 : OpT Try.prog 47 Wld := opWld Try.underlying47 rfl opT45 (by kernel_rfl) (by kernel_rfl) rfl
end Go.Um
