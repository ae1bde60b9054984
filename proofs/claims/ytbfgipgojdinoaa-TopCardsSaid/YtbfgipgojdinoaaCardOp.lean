import Derived.Test.YtbfgipgojdinoaaProg
import Derived.Test.YtbfgipgojdinoaaUmTopCardsA
namespace Go.Um
open Go.Proofs Go.RowKit
theorem opT3 : OpT Try.prog 3 Int := opInt Try.underlying3
theorem laidOut_ : laidOutB Try.prog = true := by kernel_rfl
end Go.Um
