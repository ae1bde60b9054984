import Derived.Test.YtbfgipgojdinoaaProg
import Derived.Test.YtbfgipgojdinoaaUmTopCountsA
namespace Go.Um
open Go.Proofs Go.RowKit
theorem opT3 : OpT Try.prog 3 Int := opInt Try.underlying3
theorem opT22 : OpT Try.prog 22 (List Int) := opList Try.underlying22 opT3 (by kernel_rfl) (by kernel_rfl)
theorem laidOut_ : laidOutB Try.prog = true := by kernel_rfl
end Go.Um
