/-
  No cell of these rows narrows 'for every input' (looked for: loops, veiled, ifaces, maps, wideKeys, modest, calm, conditions, laid).
  DERIVED. THE GIVEN ROWS OF THIS SEAT. 12 by the template 'for every input the law returns true; each argument reads behind the call as it read before'; 0 by the template 'total and deterministic' (their statements: YtkhpaklglggagaaTotals.lean).
  GIVEN WITH THE SEED: the statements are not yours to turn. If you find one false, say at which input.
  Laid BY PROGRAM, IN A SANDBOX (cutbox-rows.mjs): the forced cells as the released guide's own fill.sh prints them over the translation dc8df48c177965ac… (all of the seat's roots in one cut). By AI agents, Wed Nov 11 2026. No macro, syntax, notation, axiom, sorry.
-/
import Derived.Test.YtkhpaklglggagaaChecked
import GoSem.Claim
import GoSem.ClaimJoined
import GoSem.ClaimMapViews
import Derived.JoinedTies
import Derived.KernelRfl
namespace Go.Proofs.Ytkhpaklglggagaa
/- THE CELL 'sum', in the pinned program and in every row, IS THE sha256 OF THE DUMP (.gsa) THAT YtkhpaklglggagaaProg.lean LOADS. Nothing in Lean hashes anything: it is a label: what it is worth is what the hold of that sum in a sandbox is worth. -/
noncomputable def Try.pinned : Pinned := { name := "ytkhpaklglggagaa", sum := "dc8df48c177965ac7ebd5e0520ffa5503737ac91a8d46721fdd5d2c3fea07514", checked := Try.checked }
namespace Rows
def none {H : Type} : Left H := { results := [], args := [] }

/-- 'umpiragelaw8.RopeFits': WHATEVER THE INPUT: true; the input reads as it did. -/
def ropeFitsSpec : ChangeSpec := { name := "ropeFits", fn := fun _ => fun
  | [d1, d2] => { results := [.lit (.bool true)], args := [d1, d2] }
  | _ => none }
def ropeFitsRow : OpenClaim := { program := "ytkhpaklglggagaa", sum := "dc8df48c177965ac7ebd5e0520ffa5503737ac91a8d46721fdd5d2c3fea07514", func := "umpirage/umpiragelaw8.RopeFits", spec := "ropeFits", recurses := true, plainKeys := false, apart := false }
def RopeFitsSaid : Prop := ropeFitsRow.holds Try.pinned (OpenSpec.ofChange ropeFitsSpec)

/-- ITS FALSE NEIGHBOUR: 'it returns false'. Refute it at one input. -/
def ropeFitsWrong : ChangeSpec := { name := "ropeFits", fn := fun _ => fun
  | [d1, d2] => { results := [.lit (.bool false)], args := [d1, d2] }
  | _ => none }
def RopeFitsWrongFalsely : Prop := ropeFitsRow.holds Try.pinned (OpenSpec.ofChange ropeFitsWrong)

/-- 'umpiragelaw8.AutoSays': WHATEVER THE INPUT: true; the input reads as it did. -/
def autoSaysSpec : ChangeSpec := { name := "autoSays", fn := fun _ => fun
  | [d1, d2, d3] => { results := [.lit (.bool true)], args := [d1, d2, d3] }
  | _ => none }
def autoSaysRow : OpenClaim := { program := "ytkhpaklglggagaa", sum := "dc8df48c177965ac7ebd5e0520ffa5503737ac91a8d46721fdd5d2c3fea07514", func := "umpirage/umpiragelaw8.AutoSays", spec := "autoSays", unfollowed := true, recurses := true, plainKeys := false, apart := false }
def AutoSaysSaid : Prop := autoSaysRow.holds Try.pinned (OpenSpec.ofChange autoSaysSpec)

/-- ITS FALSE NEIGHBOUR: 'it returns false'. Refute it at one input. -/
def autoSaysWrong : ChangeSpec := { name := "autoSays", fn := fun _ => fun
  | [d1, d2, d3] => { results := [.lit (.bool false)], args := [d1, d2, d3] }
  | _ => none }
def AutoSaysWrongFalsely : Prop := autoSaysRow.holds Try.pinned (OpenSpec.ofChange autoSaysWrong)

/-- 'umpiragelaw8.AutoAny': WHATEVER THE INPUT: true; the input reads as it did. -/
def autoAnySpec : ChangeSpec := { name := "autoAny", fn := fun _ => fun
  | [d1, d2] => { results := [.lit (.bool true)], args := [d1, d2] }
  | _ => none }
def autoAnyRow : OpenClaim := { program := "ytkhpaklglggagaa", sum := "dc8df48c177965ac7ebd5e0520ffa5503737ac91a8d46721fdd5d2c3fea07514", func := "umpirage/umpiragelaw8.AutoAny", spec := "autoAny", unfollowed := true, recurses := true, plainKeys := false, apart := false }
def AutoAnySaid : Prop := autoAnyRow.holds Try.pinned (OpenSpec.ofChange autoAnySpec)

/-- ITS FALSE NEIGHBOUR: 'it returns false'. Refute it at one input. -/
def autoAnyWrong : ChangeSpec := { name := "autoAny", fn := fun _ => fun
  | [d1, d2] => { results := [.lit (.bool false)], args := [d1, d2] }
  | _ => none }
def AutoAnyWrongFalsely : Prop := autoAnyRow.holds Try.pinned (OpenSpec.ofChange autoAnyWrong)

/-- 'umpiragelaw8.RopeCuts': WHATEVER THE INPUT: true; the input reads as it did. -/
def ropeCutsSpec : ChangeSpec := { name := "ropeCuts", fn := fun _ => fun
  | [d1, d2] => { results := [.lit (.bool true)], args := [d1, d2] }
  | _ => none }
def ropeCutsRow : OpenClaim := { program := "ytkhpaklglggagaa", sum := "dc8df48c177965ac7ebd5e0520ffa5503737ac91a8d46721fdd5d2c3fea07514", func := "umpirage/umpiragelaw8.RopeCuts", spec := "ropeCuts", unfollowed := true, recurses := true, plainKeys := false, apart := false }
def RopeCutsSaid : Prop := ropeCutsRow.holds Try.pinned (OpenSpec.ofChange ropeCutsSpec)

/-- ITS FALSE NEIGHBOUR: 'it returns false'. Refute it at one input. -/
def ropeCutsWrong : ChangeSpec := { name := "ropeCuts", fn := fun _ => fun
  | [d1, d2] => { results := [.lit (.bool false)], args := [d1, d2] }
  | _ => none }
def RopeCutsWrongFalsely : Prop := ropeCutsRow.holds Try.pinned (OpenSpec.ofChange ropeCutsWrong)

/-- 'umpiragelaw8.AutoPairs': WHATEVER THE INPUT: true; the input reads as it did. -/
def autoPairsSpec : ChangeSpec := { name := "autoPairs", fn := fun _ => fun
  | [d1, d2] => { results := [.lit (.bool true)], args := [d1, d2] }
  | _ => none }
def autoPairsRow : OpenClaim := { program := "ytkhpaklglggagaa", sum := "dc8df48c177965ac7ebd5e0520ffa5503737ac91a8d46721fdd5d2c3fea07514", func := "umpirage/umpiragelaw8.AutoPairs", spec := "autoPairs", unfollowed := true, recurses := true, plainKeys := false, apart := false }
def AutoPairsSaid : Prop := autoPairsRow.holds Try.pinned (OpenSpec.ofChange autoPairsSpec)

/-- ITS FALSE NEIGHBOUR: 'it returns false'. Refute it at one input. -/
def autoPairsWrong : ChangeSpec := { name := "autoPairs", fn := fun _ => fun
  | [d1, d2] => { results := [.lit (.bool false)], args := [d1, d2] }
  | _ => none }
def AutoPairsWrongFalsely : Prop := autoPairsRow.holds Try.pinned (OpenSpec.ofChange autoPairsWrong)

/-- 'umpiragetop.TopTexts': WHATEVER THE INPUT: true; the input reads as it did. -/
def topTextsSpec : ChangeSpec := { name := "topTexts", fn := fun _ => fun
  | [d1, d2, d3] => { results := [.lit (.bool true)], args := [d1, d2, d3] }
  | _ => none }
def topTextsRow : OpenClaim := { program := "ytkhpaklglggagaa", sum := "dc8df48c177965ac7ebd5e0520ffa5503737ac91a8d46721fdd5d2c3fea07514", func := "umpirage/umpiragetop.TopTexts", spec := "topTexts", unfollowed := true, recurses := true, plainKeys := false, apart := false }
def TopTextsSaid : Prop := topTextsRow.holds Try.pinned (OpenSpec.ofChange topTextsSpec)

/-- ITS FALSE NEIGHBOUR: 'it returns false'. Refute it at one input. -/
def topTextsWrong : ChangeSpec := { name := "topTexts", fn := fun _ => fun
  | [d1, d2, d3] => { results := [.lit (.bool false)], args := [d1, d2, d3] }
  | _ => none }
def TopTextsWrongFalsely : Prop := topTextsRow.holds Try.pinned (OpenSpec.ofChange topTextsWrong)

/-- 'umpiragelaw8.AutoLeasts': WHATEVER THE INPUT: true; the input reads as it did. -/
def autoLeastsSpec : ChangeSpec := { name := "autoLeasts", fn := fun _ => fun
  | [d] => { results := [.lit (.bool true)], args := [d] }
  | _ => none }
def autoLeastsRow : OpenClaim := { program := "ytkhpaklglggagaa", sum := "dc8df48c177965ac7ebd5e0520ffa5503737ac91a8d46721fdd5d2c3fea07514", func := "umpirage/umpiragelaw8.AutoLeasts", spec := "autoLeasts", unfollowed := true, recurses := true, plainKeys := false, apart := false }
def AutoLeastsSaid : Prop := autoLeastsRow.holds Try.pinned (OpenSpec.ofChange autoLeastsSpec)

/-- ITS FALSE NEIGHBOUR: 'it returns false'. Refute it at one input. -/
def autoLeastsWrong : ChangeSpec := { name := "autoLeasts", fn := fun _ => fun
  | [d] => { results := [.lit (.bool false)], args := [d] }
  | _ => none }
def AutoLeastsWrongFalsely : Prop := autoLeastsRow.holds Try.pinned (OpenSpec.ofChange autoLeastsWrong)

/-- 'umpiragelaw8.AutoTakes': WHATEVER THE INPUT: true; the input reads as it did. -/
def autoTakesSpec : ChangeSpec := { name := "autoTakes", fn := fun _ => fun
  | [d1, d2, d3] => { results := [.lit (.bool true)], args := [d1, d2, d3] }
  | _ => none }
def autoTakesRow : OpenClaim := { program := "ytkhpaklglggagaa", sum := "dc8df48c177965ac7ebd5e0520ffa5503737ac91a8d46721fdd5d2c3fea07514", func := "umpirage/umpiragelaw8.AutoTakes", spec := "autoTakes", unfollowed := true, recurses := true, plainKeys := false, apart := false }
def AutoTakesSaid : Prop := autoTakesRow.holds Try.pinned (OpenSpec.ofChange autoTakesSpec)

/-- ITS FALSE NEIGHBOUR: 'it returns false'. Refute it at one input. -/
def autoTakesWrong : ChangeSpec := { name := "autoTakes", fn := fun _ => fun
  | [d1, d2, d3] => { results := [.lit (.bool false)], args := [d1, d2, d3] }
  | _ => none }
def AutoTakesWrongFalsely : Prop := autoTakesRow.holds Try.pinned (OpenSpec.ofChange autoTakesWrong)

/-- 'umpiragelaw8.RopeMade': WHATEVER THE INPUT: true; the input reads as it did. -/
def ropeMadeSpec : ChangeSpec := { name := "ropeMade", fn := fun _ => fun
  | [d1, d2] => { results := [.lit (.bool true)], args := [d1, d2] }
  | _ => none }
def ropeMadeRow : OpenClaim := { program := "ytkhpaklglggagaa", sum := "dc8df48c177965ac7ebd5e0520ffa5503737ac91a8d46721fdd5d2c3fea07514", func := "umpirage/umpiragelaw8.RopeMade", spec := "ropeMade", unfollowed := true, recurses := true, plainKeys := false, apart := false }
def RopeMadeSaid : Prop := ropeMadeRow.holds Try.pinned (OpenSpec.ofChange ropeMadeSpec)

/-- ITS FALSE NEIGHBOUR: 'it returns false'. Refute it at one input. -/
def ropeMadeWrong : ChangeSpec := { name := "ropeMade", fn := fun _ => fun
  | [d1, d2] => { results := [.lit (.bool false)], args := [d1, d2] }
  | _ => none }
def RopeMadeWrongFalsely : Prop := ropeMadeRow.holds Try.pinned (OpenSpec.ofChange ropeMadeWrong)

/-- 'umpiragelaw8.AutoMorgan': WHATEVER THE INPUT: true; the input reads as it did. -/
def autoMorganSpec : ChangeSpec := { name := "autoMorgan", fn := fun _ => fun
  | [d1, d2] => { results := [.lit (.bool true)], args := [d1, d2] }
  | _ => none }
def autoMorganRow : OpenClaim := { program := "ytkhpaklglggagaa", sum := "dc8df48c177965ac7ebd5e0520ffa5503737ac91a8d46721fdd5d2c3fea07514", func := "umpirage/umpiragelaw8.AutoMorgan", spec := "autoMorgan", unfollowed := true, recurses := true, plainKeys := false, apart := false }
def AutoMorganSaid : Prop := autoMorganRow.holds Try.pinned (OpenSpec.ofChange autoMorganSpec)

/-- ITS FALSE NEIGHBOUR: 'it returns false'. Refute it at one input. -/
def autoMorganWrong : ChangeSpec := { name := "autoMorgan", fn := fun _ => fun
  | [d1, d2] => { results := [.lit (.bool false)], args := [d1, d2] }
  | _ => none }
def AutoMorganWrongFalsely : Prop := autoMorganRow.holds Try.pinned (OpenSpec.ofChange autoMorganWrong)

/-- 'umpiragelaw8.RopeWhole': WHATEVER THE INPUT: true; the input reads as it did. -/
def ropeWholeSpec : ChangeSpec := { name := "ropeWhole", fn := fun _ => fun
  | [d1, d2] => { results := [.lit (.bool true)], args := [d1, d2] }
  | _ => none }
def ropeWholeRow : OpenClaim := { program := "ytkhpaklglggagaa", sum := "dc8df48c177965ac7ebd5e0520ffa5503737ac91a8d46721fdd5d2c3fea07514", func := "umpirage/umpiragelaw8.RopeWhole", spec := "ropeWhole", unfollowed := true, recurses := true, plainKeys := false, apart := false }
def RopeWholeSaid : Prop := ropeWholeRow.holds Try.pinned (OpenSpec.ofChange ropeWholeSpec)

/-- ITS FALSE NEIGHBOUR: 'it returns false'. Refute it at one input. -/
def ropeWholeWrong : ChangeSpec := { name := "ropeWhole", fn := fun _ => fun
  | [d1, d2] => { results := [.lit (.bool false)], args := [d1, d2] }
  | _ => none }
def RopeWholeWrongFalsely : Prop := ropeWholeRow.holds Try.pinned (OpenSpec.ofChange ropeWholeWrong)

/-- 'umpiragelaw8.AutoNerode': WHATEVER THE INPUT: true; the input reads as it did. -/
def autoNerodeSpec : ChangeSpec := { name := "autoNerode", fn := fun _ => fun
  | [d1, d2, d3] => { results := [.lit (.bool true)], args := [d1, d2, d3] }
  | _ => none }
def autoNerodeRow : OpenClaim := { program := "ytkhpaklglggagaa", sum := "dc8df48c177965ac7ebd5e0520ffa5503737ac91a8d46721fdd5d2c3fea07514", func := "umpirage/umpiragelaw8.AutoNerode", spec := "autoNerode", unfollowed := true, recurses := true, plainKeys := false, apart := false }
def AutoNerodeSaid : Prop := autoNerodeRow.holds Try.pinned (OpenSpec.ofChange autoNerodeSpec)

/-- ITS FALSE NEIGHBOUR: 'it returns false'. Refute it at one input. -/
def autoNerodeWrong : ChangeSpec := { name := "autoNerode", fn := fun _ => fun
  | [d1, d2, d3] => { results := [.lit (.bool false)], args := [d1, d2, d3] }
  | _ => none }
def AutoNerodeWrongFalsely : Prop := autoNerodeRow.holds Try.pinned (OpenSpec.ofChange autoNerodeWrong)

/- THE SECOND FORM. 'bulk': how many values and letters a reading holds, each counted each time it is reached (what is shared counts as often as it is met; a slice's spare places count too). A statement '..UptoSaid' is the law's where the arguments, and the package variables that the reading takes, are together of bulk at most 1048576: NARROWER than '..Said'. Prove '..Said' where nothing that the law and all that it calls make is longer than what came in: it says more and counts as full. Else prove '..UptoSaid'. A law counts once. -/
mutual
def uptoBulk {H : Type} : DataW H → Nat
  | .lit (.string bytes) => bytes.length + 1
  | .lit _ => 1
  | .nil => 1
  | .ptr d => uptoBulk d + 1
  | .slice elems spare => uptoBulkAll elems + uptoBulkAll spare + 1
  | .agg parts => uptoBulkAll parts + 1
  | .iface _ d => uptoBulk d + 1
  | .map entries => uptoBulkEntries entries + 1
  | .held _ => 1
def uptoBulkAll {H : Type} : List (DataW H) → Nat
  | [] => 0
  | d :: r => uptoBulk d + uptoBulkAll r
def uptoBulkEntries {H : Type} : List (Lit × DataW H) → Nat
  | [] => 0
  | x :: r => uptoBulkEntry x + uptoBulkEntries r
def uptoBulkEntry {H : Type} : Lit × DataW H → Nat
  | (.string bytes, d) => bytes.length + uptoBulk d + 1
  | (_, d) => uptoBulk d + 1
 end
def uptoSmall : (H : Type) → List (DataW H) → Bool := fun _ ds => decide (uptoBulkAll ds ≤ 1048576)
def OpenSpec.upto (s : _root_.Go.ChangeSpec) : _root_.Go.OpenSpec := { _root_.Go.OpenSpec.ofChange s with cond := some uptoSmall }

/-- 'umpiragelaw8.RopeFits', WHERE WHAT IT READS IS OF BULK AT MOST 1048576: true; the input reads as it did. -/
def ropeFitsUptoRow : OpenClaim := { program := "ytkhpaklglggagaa", sum := "dc8df48c177965ac7ebd5e0520ffa5503737ac91a8d46721fdd5d2c3fea07514", func := "umpirage/umpiragelaw8.RopeFits", spec := "ropeFits", recurses := true, plainKeys := false, apart := false, narrowed := true }
def RopeFitsUptoSaid : Prop := ropeFitsUptoRow.holds Try.pinned (OpenSpec.upto ropeFitsSpec)

/-- 'umpiragelaw8.AutoSays', WHERE WHAT IT READS IS OF BULK AT MOST 1048576: true; the input reads as it did. -/
def autoSaysUptoRow : OpenClaim := { program := "ytkhpaklglggagaa", sum := "dc8df48c177965ac7ebd5e0520ffa5503737ac91a8d46721fdd5d2c3fea07514", func := "umpirage/umpiragelaw8.AutoSays", spec := "autoSays", unfollowed := true, recurses := true, plainKeys := false, apart := false, narrowed := true }
def AutoSaysUptoSaid : Prop := autoSaysUptoRow.holds Try.pinned (OpenSpec.upto autoSaysSpec)

/-- 'umpiragelaw8.AutoAny', WHERE WHAT IT READS IS OF BULK AT MOST 1048576: true; the input reads as it did. -/
def autoAnyUptoRow : OpenClaim := { program := "ytkhpaklglggagaa", sum := "dc8df48c177965ac7ebd5e0520ffa5503737ac91a8d46721fdd5d2c3fea07514", func := "umpirage/umpiragelaw8.AutoAny", spec := "autoAny", unfollowed := true, recurses := true, plainKeys := false, apart := false, narrowed := true }
def AutoAnyUptoSaid : Prop := autoAnyUptoRow.holds Try.pinned (OpenSpec.upto autoAnySpec)

/-- 'umpiragelaw8.RopeCuts', WHERE WHAT IT READS IS OF BULK AT MOST 1048576: true; the input reads as it did. -/
def ropeCutsUptoRow : OpenClaim := { program := "ytkhpaklglggagaa", sum := "dc8df48c177965ac7ebd5e0520ffa5503737ac91a8d46721fdd5d2c3fea07514", func := "umpirage/umpiragelaw8.RopeCuts", spec := "ropeCuts", unfollowed := true, recurses := true, plainKeys := false, apart := false, narrowed := true }
def RopeCutsUptoSaid : Prop := ropeCutsUptoRow.holds Try.pinned (OpenSpec.upto ropeCutsSpec)

/-- 'umpiragelaw8.AutoPairs', WHERE WHAT IT READS IS OF BULK AT MOST 1048576: true; the input reads as it did. -/
def autoPairsUptoRow : OpenClaim := { program := "ytkhpaklglggagaa", sum := "dc8df48c177965ac7ebd5e0520ffa5503737ac91a8d46721fdd5d2c3fea07514", func := "umpirage/umpiragelaw8.AutoPairs", spec := "autoPairs", unfollowed := true, recurses := true, plainKeys := false, apart := false, narrowed := true }
def AutoPairsUptoSaid : Prop := autoPairsUptoRow.holds Try.pinned (OpenSpec.upto autoPairsSpec)

/-- 'umpiragetop.TopTexts', WHERE WHAT IT READS IS OF BULK AT MOST 1048576: true; the input reads as it did. -/
def topTextsUptoRow : OpenClaim := { program := "ytkhpaklglggagaa", sum := "dc8df48c177965ac7ebd5e0520ffa5503737ac91a8d46721fdd5d2c3fea07514", func := "umpirage/umpiragetop.TopTexts", spec := "topTexts", unfollowed := true, recurses := true, plainKeys := false, apart := false, narrowed := true }
def TopTextsUptoSaid : Prop := topTextsUptoRow.holds Try.pinned (OpenSpec.upto topTextsSpec)

/-- 'umpiragelaw8.AutoLeasts', WHERE WHAT IT READS IS OF BULK AT MOST 1048576: true; the input reads as it did. -/
def autoLeastsUptoRow : OpenClaim := { program := "ytkhpaklglggagaa", sum := "dc8df48c177965ac7ebd5e0520ffa5503737ac91a8d46721fdd5d2c3fea07514", func := "umpirage/umpiragelaw8.AutoLeasts", spec := "autoLeasts", unfollowed := true, recurses := true, plainKeys := false, apart := false, narrowed := true }
def AutoLeastsUptoSaid : Prop := autoLeastsUptoRow.holds Try.pinned (OpenSpec.upto autoLeastsSpec)

/-- 'umpiragelaw8.AutoTakes', WHERE WHAT IT READS IS OF BULK AT MOST 1048576: true; the input reads as it did. -/
def autoTakesUptoRow : OpenClaim := { program := "ytkhpaklglggagaa", sum := "dc8df48c177965ac7ebd5e0520ffa5503737ac91a8d46721fdd5d2c3fea07514", func := "umpirage/umpiragelaw8.AutoTakes", spec := "autoTakes", unfollowed := true, recurses := true, plainKeys := false, apart := false, narrowed := true }
def AutoTakesUptoSaid : Prop := autoTakesUptoRow.holds Try.pinned (OpenSpec.upto autoTakesSpec)

/-- 'umpiragelaw8.RopeMade', WHERE WHAT IT READS IS OF BULK AT MOST 1048576: true; the input reads as it did. -/
def ropeMadeUptoRow : OpenClaim := { program := "ytkhpaklglggagaa", sum := "dc8df48c177965ac7ebd5e0520ffa5503737ac91a8d46721fdd5d2c3fea07514", func := "umpirage/umpiragelaw8.RopeMade", spec := "ropeMade", unfollowed := true, recurses := true, plainKeys := false, apart := false, narrowed := true }
def RopeMadeUptoSaid : Prop := ropeMadeUptoRow.holds Try.pinned (OpenSpec.upto ropeMadeSpec)

/-- 'umpiragelaw8.AutoMorgan', WHERE WHAT IT READS IS OF BULK AT MOST 1048576: true; the input reads as it did. -/
def autoMorganUptoRow : OpenClaim := { program := "ytkhpaklglggagaa", sum := "dc8df48c177965ac7ebd5e0520ffa5503737ac91a8d46721fdd5d2c3fea07514", func := "umpirage/umpiragelaw8.AutoMorgan", spec := "autoMorgan", unfollowed := true, recurses := true, plainKeys := false, apart := false, narrowed := true }
def AutoMorganUptoSaid : Prop := autoMorganUptoRow.holds Try.pinned (OpenSpec.upto autoMorganSpec)

/-- 'umpiragelaw8.RopeWhole', WHERE WHAT IT READS IS OF BULK AT MOST 1048576: true; the input reads as it did. -/
def ropeWholeUptoRow : OpenClaim := { program := "ytkhpaklglggagaa", sum := "dc8df48c177965ac7ebd5e0520ffa5503737ac91a8d46721fdd5d2c3fea07514", func := "umpirage/umpiragelaw8.RopeWhole", spec := "ropeWhole", unfollowed := true, recurses := true, plainKeys := false, apart := false, narrowed := true }
def RopeWholeUptoSaid : Prop := ropeWholeUptoRow.holds Try.pinned (OpenSpec.upto ropeWholeSpec)

/-- 'umpiragelaw8.AutoNerode', WHERE WHAT IT READS IS OF BULK AT MOST 1048576: true; the input reads as it did. -/
def autoNerodeUptoRow : OpenClaim := { program := "ytkhpaklglggagaa", sum := "dc8df48c177965ac7ebd5e0520ffa5503737ac91a8d46721fdd5d2c3fea07514", func := "umpirage/umpiragelaw8.AutoNerode", spec := "autoNerode", unfollowed := true, recurses := true, plainKeys := false, apart := false, narrowed := true }
def AutoNerodeUptoSaid : Prop := autoNerodeUptoRow.holds Try.pinned (OpenSpec.upto autoNerodeSpec)

end Rows
end Go.Proofs.Ytkhpaklglggagaa
