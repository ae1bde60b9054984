/-
  No cell of these rows narrows 'for every input' (looked for: loops, veiled, ifaces, maps, wideKeys, modest, calm, conditions, laid).
  DERIVED. THE GIVEN ROWS OF THIS SEAT. 9 by the template 'for every input the law returns true; each argument reads behind the call as it read before'; 0 by the template 'total and deterministic' (their statements: YtpdcejallbbncaaTotals.lean).
  GIVEN WITH THE SEED: the statements are not yours to turn. If you find one false, say at which input.
  Laid BY PROGRAM, IN A SANDBOX (cutbox-rows.mjs): the forced cells as the released guide's own fill.sh prints them over the translation ca961664cad7ae63… (all of the seat's roots in one cut). By AI agents, Wed Nov 11 2026. No macro, syntax, notation, axiom, sorry.
-/
import Derived.Test.YtpdcejallbbncaaChecked
import GoSem.Claim
import GoSem.ClaimJoined
import GoSem.ClaimMapViews
import Derived.JoinedTies
import Derived.KernelRfl
namespace Go.Proofs.Ytpdcejallbbncaa
/- THE CELL 'sum', in the pinned program and in every row, IS THE sha256 OF THE DUMP (.gsa) THAT YtpdcejallbbncaaProg.lean LOADS. Nothing in Lean hashes anything: it is a label: what it is worth is what the hold of that sum in a sandbox is worth. -/
noncomputable def Try.pinned : Pinned := { name := "ytpdcejallbbncaa", sum := "ca961664cad7ae638030ecb5c692a977d45935c8153f2dc91a36008e6920ed97", checked := Try.checked }
namespace Rows
def none {H : Type} : Left H := { results := [], args := [] }

/-- 'umpiragelaw8.ActSays': WHATEVER THE INPUT: true; the input reads as it did. -/
def actSaysSpec : ChangeSpec := { name := "actSays", fn := fun _ => fun
  | [d1, d2] => { results := [.lit (.bool true)], args := [d1, d2] }
  | _ => none }
def actSaysRow : OpenClaim := { program := "ytpdcejallbbncaa", sum := "ca961664cad7ae638030ecb5c692a977d45935c8153f2dc91a36008e6920ed97", func := "umpirage/umpiragelaw8.ActSays", spec := "actSays", unfollowed := true, recurses := true, apart := false }
def ActSaysSaid : Prop := actSaysRow.holds Try.pinned (OpenSpec.ofChange actSaysSpec)

/-- ITS FALSE NEIGHBOUR: 'it returns false'. Refute it at one input. -/
def actSaysWrong : ChangeSpec := { name := "actSays", fn := fun _ => fun
  | [d1, d2] => { results := [.lit (.bool false)], args := [d1, d2] }
  | _ => none }
def ActSaysWrongFalsely : Prop := actSaysRow.holds Try.pinned (OpenSpec.ofChange actSaysWrong)

/-- 'umpiragelaw8.ActParts': WHATEVER THE INPUT: true; the input reads as it did. -/
def actPartsSpec : ChangeSpec := { name := "actParts", fn := fun _ => fun
  | [d1, d2, d3] => { results := [.lit (.bool true)], args := [d1, d2, d3] }
  | _ => none }
def actPartsRow : OpenClaim := { program := "ytpdcejallbbncaa", sum := "ca961664cad7ae638030ecb5c692a977d45935c8153f2dc91a36008e6920ed97", func := "umpirage/umpiragelaw8.ActParts", spec := "actParts", unfollowed := true, recurses := true, apart := false }
def ActPartsSaid : Prop := actPartsRow.holds Try.pinned (OpenSpec.ofChange actPartsSpec)

/-- ITS FALSE NEIGHBOUR: 'it returns false'. Refute it at one input. -/
def actPartsWrong : ChangeSpec := { name := "actParts", fn := fun _ => fun
  | [d1, d2, d3] => { results := [.lit (.bool false)], args := [d1, d2, d3] }
  | _ => none }
def ActPartsWrongFalsely : Prop := actPartsRow.holds Try.pinned (OpenSpec.ofChange actPartsWrong)

/-- 'umpiragelaw8.EasySays': WHATEVER THE INPUT: true; the input reads as it did. -/
def easySaysSpec : ChangeSpec := { name := "easySays", fn := fun _ => fun
  | [d] => { results := [.lit (.bool true)], args := [d] }
  | _ => none }
def easySaysRow : OpenClaim := { program := "ytpdcejallbbncaa", sum := "ca961664cad7ae638030ecb5c692a977d45935c8153f2dc91a36008e6920ed97", func := "umpirage/umpiragelaw8.EasySays", spec := "easySays", unfollowed := true, recurses := true, apart := false }
def EasySaysSaid : Prop := easySaysRow.holds Try.pinned (OpenSpec.ofChange easySaysSpec)

/-- ITS FALSE NEIGHBOUR: 'it returns false'. Refute it at one input. -/
def easySaysWrong : ChangeSpec := { name := "easySays", fn := fun _ => fun
  | [d] => { results := [.lit (.bool false)], args := [d] }
  | _ => none }
def EasySaysWrongFalsely : Prop := easySaysRow.holds Try.pinned (OpenSpec.ofChange easySaysWrong)

/-- 'umpiragelaw8.BestSays': WHATEVER THE INPUT: true; the input reads as it did. -/
def bestSaysSpec : ChangeSpec := { name := "bestSays", fn := fun _ => fun
  | [d] => { results := [.lit (.bool true)], args := [d] }
  | _ => none }
def bestSaysRow : OpenClaim := { program := "ytpdcejallbbncaa", sum := "ca961664cad7ae638030ecb5c692a977d45935c8153f2dc91a36008e6920ed97", func := "umpirage/umpiragelaw8.BestSays", spec := "bestSays", unfollowed := true, recurses := true, apart := false }
def BestSaysSaid : Prop := bestSaysRow.holds Try.pinned (OpenSpec.ofChange bestSaysSpec)

/-- ITS FALSE NEIGHBOUR: 'it returns false'. Refute it at one input. -/
def bestSaysWrong : ChangeSpec := { name := "bestSays", fn := fun _ => fun
  | [d] => { results := [.lit (.bool false)], args := [d] }
  | _ => none }
def BestSaysWrongFalsely : Prop := bestSaysRow.holds Try.pinned (OpenSpec.ofChange bestSaysWrong)

/-- 'umpiragelaw8.BestPlans': WHATEVER THE INPUT: true; the input reads as it did. -/
def bestPlansSpec : ChangeSpec := { name := "bestPlans", fn := fun _ => fun
  | [d1, d2] => { results := [.lit (.bool true)], args := [d1, d2] }
  | _ => none }
def bestPlansRow : OpenClaim := { program := "ytpdcejallbbncaa", sum := "ca961664cad7ae638030ecb5c692a977d45935c8153f2dc91a36008e6920ed97", func := "umpirage/umpiragelaw8.BestPlans", spec := "bestPlans", unfollowed := true, recurses := true, apart := false }
def BestPlansSaid : Prop := bestPlansRow.holds Try.pinned (OpenSpec.ofChange bestPlansSpec)

/-- ITS FALSE NEIGHBOUR: 'it returns false'. Refute it at one input. -/
def bestPlansWrong : ChangeSpec := { name := "bestPlans", fn := fun _ => fun
  | [d1, d2] => { results := [.lit (.bool false)], args := [d1, d2] }
  | _ => none }
def BestPlansWrongFalsely : Prop := bestPlansRow.holds Try.pinned (OpenSpec.ofChange bestPlansWrong)

/-- 'umpiragelaw8.EasyBelow': WHATEVER THE INPUT: true; the input reads as it did. -/
def easyBelowSpec : ChangeSpec := { name := "easyBelow", fn := fun _ => fun
  | [d1, d2] => { results := [.lit (.bool true)], args := [d1, d2] }
  | _ => none }
def easyBelowRow : OpenClaim := { program := "ytpdcejallbbncaa", sum := "ca961664cad7ae638030ecb5c692a977d45935c8153f2dc91a36008e6920ed97", func := "umpirage/umpiragelaw8.EasyBelow", spec := "easyBelow", unfollowed := true, recurses := true, apart := false }
def EasyBelowSaid : Prop := easyBelowRow.holds Try.pinned (OpenSpec.ofChange easyBelowSpec)

/-- ITS FALSE NEIGHBOUR: 'it returns false'. Refute it at one input. -/
def easyBelowWrong : ChangeSpec := { name := "easyBelow", fn := fun _ => fun
  | [d1, d2] => { results := [.lit (.bool false)], args := [d1, d2] }
  | _ => none }
def EasyBelowWrongFalsely : Prop := easyBelowRow.holds Try.pinned (OpenSpec.ofChange easyBelowWrong)

/-- 'umpiragelaw8.StepsSays': WHATEVER THE INPUT: true; the input reads as it did. -/
def stepsSaysSpec : ChangeSpec := { name := "stepsSays", fn := fun _ => fun
  | [d1, d2, d3] => { results := [.lit (.bool true)], args := [d1, d2, d3] }
  | _ => none }
def stepsSaysRow : OpenClaim := { program := "ytpdcejallbbncaa", sum := "ca961664cad7ae638030ecb5c692a977d45935c8153f2dc91a36008e6920ed97", func := "umpirage/umpiragelaw8.StepsSays", spec := "stepsSays", unfollowed := true, recurses := true, apart := false }
def StepsSaysSaid : Prop := stepsSaysRow.holds Try.pinned (OpenSpec.ofChange stepsSaysSpec)

/-- ITS FALSE NEIGHBOUR: 'it returns false'. Refute it at one input. -/
def stepsSaysWrong : ChangeSpec := { name := "stepsSays", fn := fun _ => fun
  | [d1, d2, d3] => { results := [.lit (.bool false)], args := [d1, d2, d3] }
  | _ => none }
def StepsSaysWrongFalsely : Prop := stepsSaysRow.holds Try.pinned (OpenSpec.ofChange stepsSaysWrong)

/-- 'umpiragelaw8.StepsThere': WHATEVER THE INPUT: true; the input reads as it did. -/
def stepsThereSpec : ChangeSpec := { name := "stepsThere", fn := fun _ => fun
  | [d1, d2] => { results := [.lit (.bool true)], args := [d1, d2] }
  | _ => none }
def stepsThereRow : OpenClaim := { program := "ytpdcejallbbncaa", sum := "ca961664cad7ae638030ecb5c692a977d45935c8153f2dc91a36008e6920ed97", func := "umpirage/umpiragelaw8.StepsThere", spec := "stepsThere", unfollowed := true, recurses := true, apart := false }
def StepsThereSaid : Prop := stepsThereRow.holds Try.pinned (OpenSpec.ofChange stepsThereSpec)

/-- ITS FALSE NEIGHBOUR: 'it returns false'. Refute it at one input. -/
def stepsThereWrong : ChangeSpec := { name := "stepsThere", fn := fun _ => fun
  | [d1, d2] => { results := [.lit (.bool false)], args := [d1, d2] }
  | _ => none }
def StepsThereWrongFalsely : Prop := stepsThereRow.holds Try.pinned (OpenSpec.ofChange stepsThereWrong)

/-- 'umpiragelaw8.StepsBack': WHATEVER THE INPUT: true; the input reads as it did. -/
def stepsBackSpec : ChangeSpec := { name := "stepsBack", fn := fun _ => fun
  | [d1, d2, d3] => { results := [.lit (.bool true)], args := [d1, d2, d3] }
  | _ => none }
def stepsBackRow : OpenClaim := { program := "ytpdcejallbbncaa", sum := "ca961664cad7ae638030ecb5c692a977d45935c8153f2dc91a36008e6920ed97", func := "umpirage/umpiragelaw8.StepsBack", spec := "stepsBack", unfollowed := true, recurses := true, apart := false }
def StepsBackSaid : Prop := stepsBackRow.holds Try.pinned (OpenSpec.ofChange stepsBackSpec)

/-- ITS FALSE NEIGHBOUR: 'it returns false'. Refute it at one input. -/
def stepsBackWrong : ChangeSpec := { name := "stepsBack", fn := fun _ => fun
  | [d1, d2, d3] => { results := [.lit (.bool false)], args := [d1, d2, d3] }
  | _ => none }
def StepsBackWrongFalsely : Prop := stepsBackRow.holds Try.pinned (OpenSpec.ofChange stepsBackWrong)

/- THE SECOND FORM. 'bulk': how many values and letters a reading holds, each counted each time it is reached (what is shared counts as often as it is met; a slice's spare places count too). A statement '..UptoSaid' is the law's where the arguments, and the package variables that the reading takes, are together of bulk at most 1048576: NARROWER than '..Said'. Prove '..Said' where nothing that the law and all that it calls make is longer than what came in: it says more and counts as full. Else prove '..UptoSaid'. A law counts once. -/
mutual
def uptoBulk {H : Type} : DataW H → Nat
  | .lit (.string bytes) => bytes.length + 1
  | .lit _ => 1
  | .nil => 1
  | .ptr d => uptoBulk d + 1
  | .slice elems spare => uptoBulkAll elems + uptoBulkAll spare + 1
  | .agg parts => uptoBulkAll parts + 1
  | .iface _ d => uptoBulk d + 1
  | .map entries => uptoBulkEntries entries + 1
  | .held _ => 1
def uptoBulkAll {H : Type} : List (DataW H) → Nat
  | [] => 0
  | d :: r => uptoBulk d + uptoBulkAll r
def uptoBulkEntries {H : Type} : List (Lit × DataW H) → Nat
  | [] => 0
  | x :: r => uptoBulkEntry x + uptoBulkEntries r
def uptoBulkEntry {H : Type} : Lit × DataW H → Nat
  | (.string bytes, d) => bytes.length + uptoBulk d + 1
  | (_, d) => uptoBulk d + 1
 end
def uptoSmall : (H : Type) → List (DataW H) → Bool := fun _ ds => decide (uptoBulkAll ds ≤ 1048576)
def OpenSpec.upto (s : _root_.Go.ChangeSpec) : _root_.Go.OpenSpec := { _root_.Go.OpenSpec.ofChange s with cond := some uptoSmall }

/-- 'umpiragelaw8.ActSays', WHERE WHAT IT READS IS OF BULK AT MOST 1048576: true; the input reads as it did. -/
def actSaysUptoRow : OpenClaim := { program := "ytpdcejallbbncaa", sum := "ca961664cad7ae638030ecb5c692a977d45935c8153f2dc91a36008e6920ed97", func := "umpirage/umpiragelaw8.ActSays", spec := "actSays", unfollowed := true, recurses := true, apart := false, narrowed := true }
def ActSaysUptoSaid : Prop := actSaysUptoRow.holds Try.pinned (OpenSpec.upto actSaysSpec)

/-- 'umpiragelaw8.ActParts', WHERE WHAT IT READS IS OF BULK AT MOST 1048576: true; the input reads as it did. -/
def actPartsUptoRow : OpenClaim := { program := "ytpdcejallbbncaa", sum := "ca961664cad7ae638030ecb5c692a977d45935c8153f2dc91a36008e6920ed97", func := "umpirage/umpiragelaw8.ActParts", spec := "actParts", unfollowed := true, recurses := true, apart := false, narrowed := true }
def ActPartsUptoSaid : Prop := actPartsUptoRow.holds Try.pinned (OpenSpec.upto actPartsSpec)

/-- 'umpiragelaw8.EasySays', WHERE WHAT IT READS IS OF BULK AT MOST 1048576: true; the input reads as it did. -/
def easySaysUptoRow : OpenClaim := { program := "ytpdcejallbbncaa", sum := "ca961664cad7ae638030ecb5c692a977d45935c8153f2dc91a36008e6920ed97", func := "umpirage/umpiragelaw8.EasySays", spec := "easySays", unfollowed := true, recurses := true, apart := false, narrowed := true }
def EasySaysUptoSaid : Prop := easySaysUptoRow.holds Try.pinned (OpenSpec.upto easySaysSpec)

/-- 'umpiragelaw8.BestSays', WHERE WHAT IT READS IS OF BULK AT MOST 1048576: true; the input reads as it did. -/
def bestSaysUptoRow : OpenClaim := { program := "ytpdcejallbbncaa", sum := "ca961664cad7ae638030ecb5c692a977d45935c8153f2dc91a36008e6920ed97", func := "umpirage/umpiragelaw8.BestSays", spec := "bestSays", unfollowed := true, recurses := true, apart := false, narrowed := true }
def BestSaysUptoSaid : Prop := bestSaysUptoRow.holds Try.pinned (OpenSpec.upto bestSaysSpec)

/-- 'umpiragelaw8.BestPlans', WHERE WHAT IT READS IS OF BULK AT MOST 1048576: true; the input reads as it did. -/
def bestPlansUptoRow : OpenClaim := { program := "ytpdcejallbbncaa", sum := "ca961664cad7ae638030ecb5c692a977d45935c8153f2dc91a36008e6920ed97", func := "umpirage/umpiragelaw8.BestPlans", spec := "bestPlans", unfollowed := true, recurses := true, apart := false, narrowed := true }
def BestPlansUptoSaid : Prop := bestPlansUptoRow.holds Try.pinned (OpenSpec.upto bestPlansSpec)

/-- 'umpiragelaw8.EasyBelow', WHERE WHAT IT READS IS OF BULK AT MOST 1048576: true; the input reads as it did. -/
def easyBelowUptoRow : OpenClaim := { program := "ytpdcejallbbncaa", sum := "ca961664cad7ae638030ecb5c692a977d45935c8153f2dc91a36008e6920ed97", func := "umpirage/umpiragelaw8.EasyBelow", spec := "easyBelow", unfollowed := true, recurses := true, apart := false, narrowed := true }
def EasyBelowUptoSaid : Prop := easyBelowUptoRow.holds Try.pinned (OpenSpec.upto easyBelowSpec)

/-- 'umpiragelaw8.StepsSays', WHERE WHAT IT READS IS OF BULK AT MOST 1048576: true; the input reads as it did. -/
def stepsSaysUptoRow : OpenClaim := { program := "ytpdcejallbbncaa", sum := "ca961664cad7ae638030ecb5c692a977d45935c8153f2dc91a36008e6920ed97", func := "umpirage/umpiragelaw8.StepsSays", spec := "stepsSays", unfollowed := true, recurses := true, apart := false, narrowed := true }
def StepsSaysUptoSaid : Prop := stepsSaysUptoRow.holds Try.pinned (OpenSpec.upto stepsSaysSpec)

/-- 'umpiragelaw8.StepsThere', WHERE WHAT IT READS IS OF BULK AT MOST 1048576: true; the input reads as it did. -/
def stepsThereUptoRow : OpenClaim := { program := "ytpdcejallbbncaa", sum := "ca961664cad7ae638030ecb5c692a977d45935c8153f2dc91a36008e6920ed97", func := "umpirage/umpiragelaw8.StepsThere", spec := "stepsThere", unfollowed := true, recurses := true, apart := false, narrowed := true }
def StepsThereUptoSaid : Prop := stepsThereUptoRow.holds Try.pinned (OpenSpec.upto stepsThereSpec)

/-- 'umpiragelaw8.StepsBack', WHERE WHAT IT READS IS OF BULK AT MOST 1048576: true; the input reads as it did. -/
def stepsBackUptoRow : OpenClaim := { program := "ytpdcejallbbncaa", sum := "ca961664cad7ae638030ecb5c692a977d45935c8153f2dc91a36008e6920ed97", func := "umpirage/umpiragelaw8.StepsBack", spec := "stepsBack", unfollowed := true, recurses := true, apart := false, narrowed := true }
def StepsBackUptoSaid : Prop := stepsBackUptoRow.holds Try.pinned (OpenSpec.upto stepsBackSpec)

end Rows
end Go.Proofs.Ytpdcejallbbncaa
