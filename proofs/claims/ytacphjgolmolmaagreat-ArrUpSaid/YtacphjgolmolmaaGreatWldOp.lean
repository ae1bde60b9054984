import Derived.Test.YtacphjgolmolmaaGreatProg
import Derived.Test.YtacphjgolmolmaaGreatAskOp
import Derived.Test.YtacphjgolmolmaaGreatUmArrUpB
namespace Go.Um
open Go.Proofs Go.RowKit
theorem opT67 : OpT Tryz.prog 67 Cell := opCell Tryz.underlying67 rfl rfl opT3 opT3 (by kernel_rfl) (by kernel_rfl) (by kernel_rfl) rfl rfl
theorem opT58 : OpT Tryz.prog 58 (List Cell) := opList Tryz.underlying58 opT67 (by kernel_rfl) (by kernel_rfl)
theorem opT57 : OpT Tryz.prog 57 Frac := opFrac Tryz.underlying57 rfl rfl opT3 opT3 (by kernel_rfl) (by kernel_rfl) (by kernel_rfl) rfl rfl
theorem opT60 : OpT Tryz.prog 60 Val := opVal Tryz.underlying60 rfl rfl rfl opT57 opT58 opT3 (by kernel_rfl) (by kernel_rfl) (by kernel_rfl) (by kernel_rfl) rfl rfl rfl
theorem opT65 : OpT Tryz.prog 65 Entry := opEntry Tryz.underlying65 rfl rfl opT24 opT60 (by kernel_rfl) (by kernel_rfl) (by kernel_rfl) rfl rfl
theorem opT55 : OpT Tryz.prog 55 (List Entry) := opList Tryz.underlying55 opT65 (by kernel_rfl) (by kernel_rfl)
theorem opT62 : OpT Tryz.prog 62 Meaning := opMeaning Tryz.underlying62 rfl rfl opT55 opT60 (by kernel_rfl) (by kernel_rfl) (by kernel_rfl) rfl rfl
theorem opT27 : OpT Tryz.prog 27 (List Meaning) := opList Tryz.underlying27 opT62 (by kernel_rfl) (by kernel_rfl)
theorem opT29 : OpT Tryz.prog 29 Wld := opWld Tryz.underlying29 rfl opT27 (by kernel_rfl) (by kernel_rfl) rfl
end Go.Um
