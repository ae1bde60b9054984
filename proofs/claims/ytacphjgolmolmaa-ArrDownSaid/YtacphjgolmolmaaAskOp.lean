import Derived.Test.YtacphjgolmolmaaProg
import Derived.Test.YtacphjgolmolmaaUmArrDownB
namespace Go.Um
open Go.Proofs Go.RowKit
theorem opT3 : OpT Try.prog 3 Int := opInt Try.underlying3
theorem opT9 : OpT Try.prog 9 Str := opStr Try.underlying9
theorem opT24 : OpT Try.prog 24 (List Int) := opList Try.underlying24 opT3 (by kernel_rfl) (by kernel_rfl)
theorem opT43 : OpT Try.prog 43 Decl := opDecl Try.underlying43 rfl rfl rfl opT9 opT24 opT3 (by kernel_rfl) (by kernel_rfl) (by kernel_rfl) (by kernel_rfl) rfl rfl rfl
theorem opT22 : OpT Try.prog 22 (List Decl) := opList Try.underlying22 opT43 (by kernel_rfl) (by kernel_rfl)
theorem opT37 : OpT Try.prog 37 Node := opNode Try.underlying37 rfl rfl rfl rfl rfl opT3 opT24 opT3 opT3 opT9 (by kernel_rfl) (by kernel_rfl) (by kernel_rfl) (by kernel_rfl) (by kernel_rfl) (by kernel_rfl) rfl rfl rfl rfl rfl
theorem opT23 : OpT Try.prog 23 (List Node) := opList Try.underlying23 opT37 (by kernel_rfl) (by kernel_rfl)
theorem opT26 : OpT Try.prog 26 Ask := opAsk Try.underlying26 rfl rfl rfl opT22 opT23 opT24 (by kernel_rfl) (by kernel_rfl) (by kernel_rfl) (by kernel_rfl) rfl rfl rfl
theorem laidOut_ : laidOutB Try.prog = true := by kernel_rfl
end Go.Um
