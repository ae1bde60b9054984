/-
  No cell of these rows narrows 'for every input' (looked for: loops, veiled, ifaces, maps, wideKeys, modest, calm, conditions, laid).
  DERIVED. THE GIVEN ROWS OF THIS SEAT. 9 by the template 'for every input the law returns true; each argument reads behind the call as it read before'; 0 by the template 'total and deterministic' (their statements: YtfgibfbgklkgbaaTotals.lean).
  GIVEN WITH THE SEED: the statements are not yours to turn. If you find one false, say at which input.
  Laid BY PROGRAM, IN A SANDBOX (cutbox-rows.mjs): the forced cells as the released guide's own fill.sh prints them over the translation e09aa7baeeb5b7a4… (all of the seat's roots in one cut). By AI agents, Wed Nov 11 2026. No macro, syntax, notation, axiom, sorry.
-/
import Derived.Test.YtfgibfbgklkgbaaChecked
import GoSem.Claim
import GoSem.ClaimJoined
import GoSem.ClaimMapViews
import Derived.JoinedTies
import Derived.KernelRfl
namespace Go.Proofs.Ytfgibfbgklkgbaa
/- THE CELL 'sum', in the pinned program and in every row, IS THE sha256 OF THE DUMP (.gsa) THAT YtfgibfbgklkgbaaProg.lean LOADS. Nothing in Lean hashes anything: it is a label: what it is worth is what the hold of that sum in a sandbox is worth. -/
noncomputable def Try.pinned : Pinned := { name := "ytfgibfbgklkgbaa", sum := "e09aa7baeeb5b7a42eb609ca74b29370b5ea523cc59662427fa839fc2231d0be", checked := Try.checked }
namespace Rows
def none {H : Type} : Left H := { results := [], args := [] }

/-- 'umpiragelaw8.LoopWants': WHATEVER THE INPUT: true; the input reads as it did. -/
def loopWantsSpec : ChangeSpec := { name := "loopWants", fn := fun _ => fun
  | [d1, d2] => { results := [.lit (.bool true)], args := [d1, d2] }
  | _ => none }
def loopWantsRow : OpenClaim := { program := "ytfgibfbgklkgbaa", sum := "e09aa7baeeb5b7a42eb609ca74b29370b5ea523cc59662427fa839fc2231d0be", func := "umpirage/umpiragelaw8.LoopWants", spec := "loopWants", unfollowed := true, recurses := true, apart := false }
def LoopWantsSaid : Prop := loopWantsRow.holds Try.pinned (OpenSpec.ofChange loopWantsSpec)

/-- ITS FALSE NEIGHBOUR: 'it returns false'. Refute it at one input. -/
def loopWantsWrong : ChangeSpec := { name := "loopWants", fn := fun _ => fun
  | [d1, d2] => { results := [.lit (.bool false)], args := [d1, d2] }
  | _ => none }
def LoopWantsWrongFalsely : Prop := loopWantsRow.holds Try.pinned (OpenSpec.ofChange loopWantsWrong)

/-- 'umpiragetop.TopLoops': WHATEVER THE INPUT: true; the input reads as it did. -/
def topLoopsSpec : ChangeSpec := { name := "topLoops", fn := fun _ => fun
  | [d1, d2] => { results := [.lit (.bool true)], args := [d1, d2] }
  | _ => none }
def topLoopsRow : OpenClaim := { program := "ytfgibfbgklkgbaa", sum := "e09aa7baeeb5b7a42eb609ca74b29370b5ea523cc59662427fa839fc2231d0be", func := "umpirage/umpiragetop.TopLoops", spec := "topLoops", unfollowed := true, recurses := true, apart := false }
def TopLoopsSaid : Prop := topLoopsRow.holds Try.pinned (OpenSpec.ofChange topLoopsSpec)

/-- ITS FALSE NEIGHBOUR: 'it returns false'. Refute it at one input. -/
def topLoopsWrong : ChangeSpec := { name := "topLoops", fn := fun _ => fun
  | [d1, d2] => { results := [.lit (.bool false)], args := [d1, d2] }
  | _ => none }
def TopLoopsWrongFalsely : Prop := topLoopsRow.holds Try.pinned (OpenSpec.ofChange topLoopsWrong)

/-- 'umpiragelaw8.LoopSays': WHATEVER THE INPUT: true; the input reads as it did. -/
def loopSaysSpec : ChangeSpec := { name := "loopSays", fn := fun _ => fun
  | [d1, d2] => { results := [.lit (.bool true)], args := [d1, d2] }
  | _ => none }
def loopSaysRow : OpenClaim := { program := "ytfgibfbgklkgbaa", sum := "e09aa7baeeb5b7a42eb609ca74b29370b5ea523cc59662427fa839fc2231d0be", func := "umpirage/umpiragelaw8.LoopSays", spec := "loopSays", unfollowed := true, recurses := true, apart := false }
def LoopSaysSaid : Prop := loopSaysRow.holds Try.pinned (OpenSpec.ofChange loopSaysSpec)

/-- ITS FALSE NEIGHBOUR: 'it returns false'. Refute it at one input. -/
def loopSaysWrong : ChangeSpec := { name := "loopSays", fn := fun _ => fun
  | [d1, d2] => { results := [.lit (.bool false)], args := [d1, d2] }
  | _ => none }
def LoopSaysWrongFalsely : Prop := loopSaysRow.holds Try.pinned (OpenSpec.ofChange loopSaysWrong)

/-- 'umpiragelaw8.LoopWeakest': WHATEVER THE INPUT: true; the input reads as it did. -/
def loopWeakestSpec : ChangeSpec := { name := "loopWeakest", fn := fun _ => fun
  | [d1, d2, d3] => { results := [.lit (.bool true)], args := [d1, d2, d3] }
  | _ => none }
def loopWeakestRow : OpenClaim := { program := "ytfgibfbgklkgbaa", sum := "e09aa7baeeb5b7a42eb609ca74b29370b5ea523cc59662427fa839fc2231d0be", func := "umpirage/umpiragelaw8.LoopWeakest", spec := "loopWeakest", unfollowed := true, recurses := true, apart := false }
def LoopWeakestSaid : Prop := loopWeakestRow.holds Try.pinned (OpenSpec.ofChange loopWeakestSpec)

/-- ITS FALSE NEIGHBOUR: 'it returns false'. Refute it at one input. -/
def loopWeakestWrong : ChangeSpec := { name := "loopWeakest", fn := fun _ => fun
  | [d1, d2, d3] => { results := [.lit (.bool false)], args := [d1, d2, d3] }
  | _ => none }
def LoopWeakestWrongFalsely : Prop := loopWeakestRow.holds Try.pinned (OpenSpec.ofChange loopWeakestWrong)

/-- 'umpiragelaw8.LoopClosed': WHATEVER THE INPUT: true; the input reads as it did. -/
def loopClosedSpec : ChangeSpec := { name := "loopClosed", fn := fun _ => fun
  | [d] => { results := [.lit (.bool true)], args := [d] }
  | _ => none }
def loopClosedRow : OpenClaim := { program := "ytfgibfbgklkgbaa", sum := "e09aa7baeeb5b7a42eb609ca74b29370b5ea523cc59662427fa839fc2231d0be", func := "umpirage/umpiragelaw8.LoopClosed", spec := "loopClosed", unfollowed := true, recurses := true, apart := false }
def LoopClosedSaid : Prop := loopClosedRow.holds Try.pinned (OpenSpec.ofChange loopClosedSpec)

/-- ITS FALSE NEIGHBOUR: 'it returns false'. Refute it at one input. -/
def loopClosedWrong : ChangeSpec := { name := "loopClosed", fn := fun _ => fun
  | [d] => { results := [.lit (.bool false)], args := [d] }
  | _ => none }
def LoopClosedWrongFalsely : Prop := loopClosedRow.holds Try.pinned (OpenSpec.ofChange loopClosedWrong)

/-- 'umpiragelaw8.HoldSays': WHATEVER THE INPUT: true; the input reads as it did. -/
def holdSaysSpec : ChangeSpec := { name := "holdSays", fn := fun _ => fun
  | [d1, d2] => { results := [.lit (.bool true)], args := [d1, d2] }
  | _ => none }
def holdSaysRow : OpenClaim := { program := "ytfgibfbgklkgbaa", sum := "e09aa7baeeb5b7a42eb609ca74b29370b5ea523cc59662427fa839fc2231d0be", func := "umpirage/umpiragelaw8.HoldSays", spec := "holdSays", unfollowed := true, recurses := true, apart := false }
def HoldSaysSaid : Prop := holdSaysRow.holds Try.pinned (OpenSpec.ofChange holdSaysSpec)

/-- ITS FALSE NEIGHBOUR: 'it returns false'. Refute it at one input. -/
def holdSaysWrong : ChangeSpec := { name := "holdSays", fn := fun _ => fun
  | [d1, d2] => { results := [.lit (.bool false)], args := [d1, d2] }
  | _ => none }
def HoldSaysWrongFalsely : Prop := holdSaysRow.holds Try.pinned (OpenSpec.ofChange holdSaysWrong)

/-- 'umpiragelaw8.HoldRuns': WHATEVER THE INPUT: true; the input reads as it did. -/
def holdRunsSpec : ChangeSpec := { name := "holdRuns", fn := fun _ => fun
  | [d1, d2] => { results := [.lit (.bool true)], args := [d1, d2] }
  | _ => none }
def holdRunsRow : OpenClaim := { program := "ytfgibfbgklkgbaa", sum := "e09aa7baeeb5b7a42eb609ca74b29370b5ea523cc59662427fa839fc2231d0be", func := "umpirage/umpiragelaw8.HoldRuns", spec := "holdRuns", unfollowed := true, recurses := true, apart := false }
def HoldRunsSaid : Prop := holdRunsRow.holds Try.pinned (OpenSpec.ofChange holdRunsSpec)

/-- ITS FALSE NEIGHBOUR: 'it returns false'. Refute it at one input. -/
def holdRunsWrong : ChangeSpec := { name := "holdRuns", fn := fun _ => fun
  | [d1, d2] => { results := [.lit (.bool false)], args := [d1, d2] }
  | _ => none }
def HoldRunsWrongFalsely : Prop := holdRunsRow.holds Try.pinned (OpenSpec.ofChange holdRunsWrong)

/-- 'umpiragelaw8.HoldMost': WHATEVER THE INPUT: true; the input reads as it did. -/
def holdMostSpec : ChangeSpec := { name := "holdMost", fn := fun _ => fun
  | [d1, d2, d3] => { results := [.lit (.bool true)], args := [d1, d2, d3] }
  | _ => none }
def holdMostRow : OpenClaim := { program := "ytfgibfbgklkgbaa", sum := "e09aa7baeeb5b7a42eb609ca74b29370b5ea523cc59662427fa839fc2231d0be", func := "umpirage/umpiragelaw8.HoldMost", spec := "holdMost", unfollowed := true, recurses := true, apart := false }
def HoldMostSaid : Prop := holdMostRow.holds Try.pinned (OpenSpec.ofChange holdMostSpec)

/-- ITS FALSE NEIGHBOUR: 'it returns false'. Refute it at one input. -/
def holdMostWrong : ChangeSpec := { name := "holdMost", fn := fun _ => fun
  | [d1, d2, d3] => { results := [.lit (.bool false)], args := [d1, d2, d3] }
  | _ => none }
def HoldMostWrongFalsely : Prop := holdMostRow.holds Try.pinned (OpenSpec.ofChange holdMostWrong)

/-- 'umpiragelaw8.HoldBad': WHATEVER THE INPUT: true; the input reads as it did. -/
def holdBadSpec : ChangeSpec := { name := "holdBad", fn := fun _ => fun
  | [d] => { results := [.lit (.bool true)], args := [d] }
  | _ => none }
def holdBadRow : OpenClaim := { program := "ytfgibfbgklkgbaa", sum := "e09aa7baeeb5b7a42eb609ca74b29370b5ea523cc59662427fa839fc2231d0be", func := "umpirage/umpiragelaw8.HoldBad", spec := "holdBad", unfollowed := true, recurses := true, apart := false }
def HoldBadSaid : Prop := holdBadRow.holds Try.pinned (OpenSpec.ofChange holdBadSpec)

/-- ITS FALSE NEIGHBOUR: 'it returns false'. Refute it at one input. -/
def holdBadWrong : ChangeSpec := { name := "holdBad", fn := fun _ => fun
  | [d] => { results := [.lit (.bool false)], args := [d] }
  | _ => none }
def HoldBadWrongFalsely : Prop := holdBadRow.holds Try.pinned (OpenSpec.ofChange holdBadWrong)

/- THE SECOND FORM. 'bulk': how many values and letters a reading holds, each counted each time it is reached (what is shared counts as often as it is met; a slice's spare places count too). A statement '..UptoSaid' is the law's where the arguments, and the package variables that the reading takes, are together of bulk at most 1048576: NARROWER than '..Said'. Prove '..Said' where nothing that the law and all that it calls make is longer than what came in: it says more and counts as full. Else prove '..UptoSaid'. A law counts once. -/
mutual
def uptoBulk {H : Type} : DataW H → Nat
  | .lit (.string bytes) => bytes.length + 1
  | .lit _ => 1
  | .nil => 1
  | .ptr d => uptoBulk d + 1
  | .slice elems spare => uptoBulkAll elems + uptoBulkAll spare + 1
  | .agg parts => uptoBulkAll parts + 1
  | .iface _ d => uptoBulk d + 1
  | .map entries => uptoBulkEntries entries + 1
  | .held _ => 1
def uptoBulkAll {H : Type} : List (DataW H) → Nat
  | [] => 0
  | d :: r => uptoBulk d + uptoBulkAll r
def uptoBulkEntries {H : Type} : List (Lit × DataW H) → Nat
  | [] => 0
  | x :: r => uptoBulkEntry x + uptoBulkEntries r
def uptoBulkEntry {H : Type} : Lit × DataW H → Nat
  | (.string bytes, d) => bytes.length + uptoBulk d + 1
  | (_, d) => uptoBulk d + 1
 end
def uptoSmall : (H : Type) → List (DataW H) → Bool := fun _ ds => decide (uptoBulkAll ds ≤ 1048576)
def OpenSpec.upto (s : _root_.Go.ChangeSpec) : _root_.Go.OpenSpec := { _root_.Go.OpenSpec.ofChange s with cond := some uptoSmall }

/-- 'umpiragelaw8.LoopWants', WHERE WHAT IT READS IS OF BULK AT MOST 1048576: true; the input reads as it did. -/
def loopWantsUptoRow : OpenClaim := { program := "ytfgibfbgklkgbaa", sum := "e09aa7baeeb5b7a42eb609ca74b29370b5ea523cc59662427fa839fc2231d0be", func := "umpirage/umpiragelaw8.LoopWants", spec := "loopWants", unfollowed := true, recurses := true, apart := false, narrowed := true }
def LoopWantsUptoSaid : Prop := loopWantsUptoRow.holds Try.pinned (OpenSpec.upto loopWantsSpec)

/-- 'umpiragetop.TopLoops', WHERE WHAT IT READS IS OF BULK AT MOST 1048576: true; the input reads as it did. -/
def topLoopsUptoRow : OpenClaim := { program := "ytfgibfbgklkgbaa", sum := "e09aa7baeeb5b7a42eb609ca74b29370b5ea523cc59662427fa839fc2231d0be", func := "umpirage/umpiragetop.TopLoops", spec := "topLoops", unfollowed := true, recurses := true, apart := false, narrowed := true }
def TopLoopsUptoSaid : Prop := topLoopsUptoRow.holds Try.pinned (OpenSpec.upto topLoopsSpec)

/-- 'umpiragelaw8.LoopSays', WHERE WHAT IT READS IS OF BULK AT MOST 1048576: true; the input reads as it did. -/
def loopSaysUptoRow : OpenClaim := { program := "ytfgibfbgklkgbaa", sum := "e09aa7baeeb5b7a42eb609ca74b29370b5ea523cc59662427fa839fc2231d0be", func := "umpirage/umpiragelaw8.LoopSays", spec := "loopSays", unfollowed := true, recurses := true, apart := false, narrowed := true }
def LoopSaysUptoSaid : Prop := loopSaysUptoRow.holds Try.pinned (OpenSpec.upto loopSaysSpec)

/-- 'umpiragelaw8.LoopWeakest', WHERE WHAT IT READS IS OF BULK AT MOST 1048576: true; the input reads as it did. -/
def loopWeakestUptoRow : OpenClaim := { program := "ytfgibfbgklkgbaa", sum := "e09aa7baeeb5b7a42eb609ca74b29370b5ea523cc59662427fa839fc2231d0be", func := "umpirage/umpiragelaw8.LoopWeakest", spec := "loopWeakest", unfollowed := true, recurses := true, apart := false, narrowed := true }
def LoopWeakestUptoSaid : Prop := loopWeakestUptoRow.holds Try.pinned (OpenSpec.upto loopWeakestSpec)

/-- 'umpiragelaw8.LoopClosed', WHERE WHAT IT READS IS OF BULK AT MOST 1048576: true; the input reads as it did. -/
def loopClosedUptoRow : OpenClaim := { program := "ytfgibfbgklkgbaa", sum := "e09aa7baeeb5b7a42eb609ca74b29370b5ea523cc59662427fa839fc2231d0be", func := "umpirage/umpiragelaw8.LoopClosed", spec := "loopClosed", unfollowed := true, recurses := true, apart := false, narrowed := true }
def LoopClosedUptoSaid : Prop := loopClosedUptoRow.holds Try.pinned (OpenSpec.upto loopClosedSpec)

/-- 'umpiragelaw8.HoldSays', WHERE WHAT IT READS IS OF BULK AT MOST 1048576: true; the input reads as it did. -/
def holdSaysUptoRow : OpenClaim := { program := "ytfgibfbgklkgbaa", sum := "e09aa7baeeb5b7a42eb609ca74b29370b5ea523cc59662427fa839fc2231d0be", func := "umpirage/umpiragelaw8.HoldSays", spec := "holdSays", unfollowed := true, recurses := true, apart := false, narrowed := true }
def HoldSaysUptoSaid : Prop := holdSaysUptoRow.holds Try.pinned (OpenSpec.upto holdSaysSpec)

/-- 'umpiragelaw8.HoldRuns', WHERE WHAT IT READS IS OF BULK AT MOST 1048576: true; the input reads as it did. -/
def holdRunsUptoRow : OpenClaim := { program := "ytfgibfbgklkgbaa", sum := "e09aa7baeeb5b7a42eb609ca74b29370b5ea523cc59662427fa839fc2231d0be", func := "umpirage/umpiragelaw8.HoldRuns", spec := "holdRuns", unfollowed := true, recurses := true, apart := false, narrowed := true }
def HoldRunsUptoSaid : Prop := holdRunsUptoRow.holds Try.pinned (OpenSpec.upto holdRunsSpec)

/-- 'umpiragelaw8.HoldMost', WHERE WHAT IT READS IS OF BULK AT MOST 1048576: true; the input reads as it did. -/
def holdMostUptoRow : OpenClaim := { program := "ytfgibfbgklkgbaa", sum := "e09aa7baeeb5b7a42eb609ca74b29370b5ea523cc59662427fa839fc2231d0be", func := "umpirage/umpiragelaw8.HoldMost", spec := "holdMost", unfollowed := true, recurses := true, apart := false, narrowed := true }
def HoldMostUptoSaid : Prop := holdMostUptoRow.holds Try.pinned (OpenSpec.upto holdMostSpec)

/-- 'umpiragelaw8.HoldBad', WHERE WHAT IT READS IS OF BULK AT MOST 1048576: true; the input reads as it did. -/
def holdBadUptoRow : OpenClaim := { program := "ytfgibfbgklkgbaa", sum := "e09aa7baeeb5b7a42eb609ca74b29370b5ea523cc59662427fa839fc2231d0be", func := "umpirage/umpiragelaw8.HoldBad", spec := "holdBad", unfollowed := true, recurses := true, apart := false, narrowed := true }
def HoldBadUptoSaid : Prop := holdBadUptoRow.holds Try.pinned (OpenSpec.upto holdBadSpec)

end Rows
end Go.Proofs.Ytfgibfbgklkgbaa
