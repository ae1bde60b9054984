/-
  No cell of these rows narrows 'for every input' (looked for: loops, veiled, ifaces, maps, wideKeys, modest, calm, conditions, laid).
  DERIVED. THE GIVEN ROWS OF THIS SEAT. 3 by the template 'for every input the law returns true; each argument reads behind the call as it read before'; 0 by the template 'total and deterministic' (their statements: YtacphjgolmolmaaTotals.lean).
  GIVEN WITH THE SEED: the statements are not yours to turn. If you find one false, say at which input.
  Laid BY PROGRAM, IN A SANDBOX (cutbox-rows.mjs): the forced cells as the released guide's own fill.sh prints them over the translation 2f3bda2d87e97456… (all of the seat's roots in one cut). By AI agents, Wed Nov 11 2026. No macro, syntax, notation, axiom, sorry.
-/
import Derived.Test.YtacphjgolmolmaaChecked
import GoSem.Claim
import GoSem.ClaimJoined
import GoSem.ClaimMapViews
import Derived.JoinedTies
import Derived.KernelRfl
namespace Go.Proofs.Ytacphjgolmolmaa
/- THE CELL 'sum', in the pinned program and in every row, IS THE sha256 OF THE DUMP (.gsa) THAT YtacphjgolmolmaaProg.lean LOADS. Nothing in Lean hashes anything: it is a label: what it is worth is what the hold of that sum in a sandbox is worth. -/
noncomputable def Try.pinned : Pinned := { name := "ytacphjgolmolmaa", sum := "2f3bda2d87e97456c5c31aa99cc68ec4436d395612d3c57f4427779ac4485032", checked := Try.checked }
namespace Rows
def none {H : Type} : Left H := { results := [], args := [] }

/-- 'umpiragelaw8.ArrSays': WHATEVER THE INPUT: true; the input reads as it did. -/
def arrSaysSpec : ChangeSpec := { name := "arrSays", fn := fun _ => fun
  | [d] => { results := [.lit (.bool true)], args := [d] }
  | _ => none }
def arrSaysRow : OpenClaim := { program := "ytacphjgolmolmaa", sum := "2f3bda2d87e97456c5c31aa99cc68ec4436d395612d3c57f4427779ac4485032", func := "umpirage/umpiragelaw8.ArrSays", spec := "arrSays", unfollowed := true, recurses := true, apart := false }
def ArrSaysSaid : Prop := arrSaysRow.holds Try.pinned (OpenSpec.ofChange arrSaysSpec)

/-- ITS FALSE NEIGHBOUR: 'it returns false'. Refute it at one input. -/
def arrSaysWrong : ChangeSpec := { name := "arrSays", fn := fun _ => fun
  | [d] => { results := [.lit (.bool false)], args := [d] }
  | _ => none }
def ArrSaysWrongFalsely : Prop := arrSaysRow.holds Try.pinned (OpenSpec.ofChange arrSaysWrong)

/-- 'umpiragelaw8.ArrNone': WHATEVER THE INPUT: true; the input reads as it did. -/
def arrNoneSpec : ChangeSpec := { name := "arrNone", fn := fun _ => fun
  | [d] => { results := [.lit (.bool true)], args := [d] }
  | _ => none }
def arrNoneRow : OpenClaim := { program := "ytacphjgolmolmaa", sum := "2f3bda2d87e97456c5c31aa99cc68ec4436d395612d3c57f4427779ac4485032", func := "umpirage/umpiragelaw8.ArrNone", spec := "arrNone", unfollowed := true, recurses := true, apart := false }
def ArrNoneSaid : Prop := arrNoneRow.holds Try.pinned (OpenSpec.ofChange arrNoneSpec)

/-- ITS FALSE NEIGHBOUR: 'it returns false'. Refute it at one input. -/
def arrNoneWrong : ChangeSpec := { name := "arrNone", fn := fun _ => fun
  | [d] => { results := [.lit (.bool false)], args := [d] }
  | _ => none }
def ArrNoneWrongFalsely : Prop := arrNoneRow.holds Try.pinned (OpenSpec.ofChange arrNoneWrong)

/-- 'umpiragelaw8.ArrDown': WHATEVER THE INPUT: true; the input reads as it did. -/
def arrDownSpec : ChangeSpec := { name := "arrDown", fn := fun _ => fun
  | [d1, d2] => { results := [.lit (.bool true)], args := [d1, d2] }
  | _ => none }
def arrDownRow : OpenClaim := { program := "ytacphjgolmolmaa", sum := "2f3bda2d87e97456c5c31aa99cc68ec4436d395612d3c57f4427779ac4485032", func := "umpirage/umpiragelaw8.ArrDown", spec := "arrDown", unfollowed := true, recurses := true, apart := false }
def ArrDownSaid : Prop := arrDownRow.holds Try.pinned (OpenSpec.ofChange arrDownSpec)

/-- ITS FALSE NEIGHBOUR: 'it returns false'. Refute it at one input. -/
def arrDownWrong : ChangeSpec := { name := "arrDown", fn := fun _ => fun
  | [d1, d2] => { results := [.lit (.bool false)], args := [d1, d2] }
  | _ => none }
def ArrDownWrongFalsely : Prop := arrDownRow.holds Try.pinned (OpenSpec.ofChange arrDownWrong)

/- THE SECOND FORM. 'bulk': how many values and letters a reading holds, each counted each time it is reached (what is shared counts as often as it is met; a slice's spare places count too). A statement '..UptoSaid' is the law's where the arguments, and the package variables that the reading takes, are together of bulk at most 1048576: NARROWER than '..Said'. Prove '..Said' where nothing that the law and all that it calls make is longer than what came in: it says more and counts as full. Else prove '..UptoSaid'. A law counts once. -/
mutual
def uptoBulk {H : Type} : DataW H → Nat
  | .lit (.string bytes) => bytes.length + 1
  | .lit _ => 1
  | .nil => 1
  | .ptr d => uptoBulk d + 1
  | .slice elems spare => uptoBulkAll elems + uptoBulkAll spare + 1
  | .agg parts => uptoBulkAll parts + 1
  | .iface _ d => uptoBulk d + 1
  | .map entries => uptoBulkEntries entries + 1
  | .held _ => 1
def uptoBulkAll {H : Type} : List (DataW H) → Nat
  | [] => 0
  | d :: r => uptoBulk d + uptoBulkAll r
def uptoBulkEntries {H : Type} : List (Lit × DataW H) → Nat
  | [] => 0
  | x :: r => uptoBulkEntry x + uptoBulkEntries r
def uptoBulkEntry {H : Type} : Lit × DataW H → Nat
  | (.string bytes, d) => bytes.length + uptoBulk d + 1
  | (_, d) => uptoBulk d + 1
 end
def uptoSmall : (H : Type) → List (DataW H) → Bool := fun _ ds => decide (uptoBulkAll ds ≤ 1048576)
def OpenSpec.upto (s : _root_.Go.ChangeSpec) : _root_.Go.OpenSpec := { _root_.Go.OpenSpec.ofChange s with cond := some uptoSmall }

/-- 'umpiragelaw8.ArrSays', WHERE WHAT IT READS IS OF BULK AT MOST 1048576: true; the input reads as it did. -/
def arrSaysUptoRow : OpenClaim := { program := "ytacphjgolmolmaa", sum := "2f3bda2d87e97456c5c31aa99cc68ec4436d395612d3c57f4427779ac4485032", func := "umpirage/umpiragelaw8.ArrSays", spec := "arrSays", unfollowed := true, recurses := true, apart := false, narrowed := true }
def ArrSaysUptoSaid : Prop := arrSaysUptoRow.holds Try.pinned (OpenSpec.upto arrSaysSpec)

/-- 'umpiragelaw8.ArrNone', WHERE WHAT IT READS IS OF BULK AT MOST 1048576: true; the input reads as it did. -/
def arrNoneUptoRow : OpenClaim := { program := "ytacphjgolmolmaa", sum := "2f3bda2d87e97456c5c31aa99cc68ec4436d395612d3c57f4427779ac4485032", func := "umpirage/umpiragelaw8.ArrNone", spec := "arrNone", unfollowed := true, recurses := true, apart := false, narrowed := true }
def ArrNoneUptoSaid : Prop := arrNoneUptoRow.holds Try.pinned (OpenSpec.upto arrNoneSpec)

/-- 'umpiragelaw8.ArrDown', WHERE WHAT IT READS IS OF BULK AT MOST 1048576: true; the input reads as it did. -/
def arrDownUptoRow : OpenClaim := { program := "ytacphjgolmolmaa", sum := "2f3bda2d87e97456c5c31aa99cc68ec4436d395612d3c57f4427779ac4485032", func := "umpirage/umpiragelaw8.ArrDown", spec := "arrDown", unfollowed := true, recurses := true, apart := false, narrowed := true }
def ArrDownUptoSaid : Prop := arrDownUptoRow.holds Try.pinned (OpenSpec.upto arrDownSpec)

end Rows
end Go.Proofs.Ytacphjgolmolmaa
