import Derived.Test.YtacphjgolmolmaaGreatProg
import Derived.Test.YtacphjgolmolmaaGreatUmArrUpB
namespace Go.Um
open Go.Proofs Go.RowKit
theorem opT3 : OpT Tryz.prog 3 Int := opInt Tryz.underlying3
theorem opT9 : OpT Tryz.prog 9 Str := opStr Tryz.underlying9
theorem opT24 : OpT Tryz.prog 24 (List Int) := opList Tryz.underlying24 opT3 (by kernel_rfl) (by kernel_rfl)
theorem opT43 : OpT Tryz.prog 43 Decl := opDecl Tryz.underlying43 rfl rfl rfl opT9 opT24 opT3 (by kernel_rfl) (by kernel_rfl) (by kernel_rfl) (by kernel_rfl) rfl rfl rfl
theorem opT22 : OpT Tryz.prog 22 (List Decl) := opList Tryz.underlying22 opT43 (by kernel_rfl) (by kernel_rfl)
theorem opT52 : OpT Tryz.prog 52 Node := opNode Tryz.underlying52 rfl rfl rfl rfl rfl opT3 opT24 opT3 opT3 opT9 (by kernel_rfl) (by kernel_rfl) (by kernel_rfl) (by kernel_rfl) (by kernel_rfl) (by kernel_rfl) rfl rfl rfl rfl rfl
theorem opT23 : OpT Tryz.prog 23 (List Node) := opList Tryz.underlying23 opT52 (by kernel_rfl) (by kernel_rfl)
theorem opT26 : OpT Tryz.prog 26 Ask := opAsk Tryz.underlying26 rfl rfl rfl opT22 opT23 opT24 (by kernel_rfl) (by kernel_rfl) (by kernel_rfl) (by kernel_rfl) rfl rfl rfl
theorem laidOut_ : laidOutB Tryz.prog = true := by kernel_rfl
end Go.Um
