/-
  No cell of these rows narrows 'for every input' (looked for: loops, veiled, ifaces, maps, wideKeys, modest, calm, conditions, laid).
  DERIVED. THE GIVEN ROWS OF THIS SEAT. 6 by the template 'for every input the law returns true; each argument reads behind the call as it read before'; 0 by the template 'total and deterministic' (their statements: YtfbjpfgglgffgaaGreatTotals.lean).
  GIVEN WITH THE SEED: the statements are not yours to turn. If you find one false, say at which input.
  Laid BY PROGRAM, IN A SANDBOX (cutbox-rows.mjs): the forced cells as the released guide's own fill.sh prints them over the translation 1e479721eb1e2108… (all of the seat's roots in one cut). By AI agents, Wed Nov 11 2026. No macro, syntax, notation, axiom, sorry.
-/
import Derived.Test.YtfbjpfgglgffgaaGreatChecked
import GoSem.Claim
import GoSem.ClaimJoined
import GoSem.ClaimMapViews
import Derived.JoinedTies
import Derived.KernelRfl
namespace Go.Proofs.YtfbjpfgglgffgaaGreat
/- THE CELL 'sum', in the pinned program and in every row, IS THE sha256 OF THE DUMP (.gsa) THAT YtfbjpfgglgffgaaGreatProg.lean LOADS. Nothing in Lean hashes anything: it is a label: what it is worth is what the hold of that sum in a sandbox is worth. -/
noncomputable def Tryz.pinned : Pinned := { name := "ytfbjpfgglgffgaagreat", sum := "1e479721eb1e21087e369860b8b26f4de247018dde9303266b85634774259483", checked := Tryz.checked }
namespace Rows
def none {H : Type} : Left H := { results := [], args := [] }

/-- 'supercargolaw23.RegisterBoxes': WHATEVER THE INPUT: true; the input reads as it did. -/
def registerBoxesSpec : ChangeSpec := { name := "registerBoxes", fn := fun _ => fun
  | [d] => { results := [.lit (.bool true)], args := [d] }
  | _ => none }
def registerBoxesRow : OpenClaim := { program := "ytfbjpfgglgffgaagreat", sum := "1e479721eb1e21087e369860b8b26f4de247018dde9303266b85634774259483", func := "supercargo/supercargolaw23.RegisterBoxes", spec := "registerBoxes", unfollowed := true, recurses := true, apart := false }
def RegisterBoxesSaid : Prop := registerBoxesRow.holds Tryz.pinned (OpenSpec.ofChange registerBoxesSpec)

/-- ITS FALSE NEIGHBOUR: 'it returns false'. Refute it at one input. -/
def registerBoxesWrong : ChangeSpec := { name := "registerBoxes", fn := fun _ => fun
  | [d] => { results := [.lit (.bool false)], args := [d] }
  | _ => none }
def RegisterBoxesWrongFalsely : Prop := registerBoxesRow.holds Tryz.pinned (OpenSpec.ofChange registerBoxesWrong)

/-- 'supercargolaw23.RegisterHolders': WHATEVER THE INPUT: true; the input reads as it did. -/
def registerHoldersSpec : ChangeSpec := { name := "registerHolders", fn := fun _ => fun
  | [d] => { results := [.lit (.bool true)], args := [d] }
  | _ => none }
def registerHoldersRow : OpenClaim := { program := "ytfbjpfgglgffgaagreat", sum := "1e479721eb1e21087e369860b8b26f4de247018dde9303266b85634774259483", func := "supercargo/supercargolaw23.RegisterHolders", spec := "registerHolders", unfollowed := true, recurses := true, apart := false }
def RegisterHoldersSaid : Prop := registerHoldersRow.holds Tryz.pinned (OpenSpec.ofChange registerHoldersSpec)

/-- ITS FALSE NEIGHBOUR: 'it returns false'. Refute it at one input. -/
def registerHoldersWrong : ChangeSpec := { name := "registerHolders", fn := fun _ => fun
  | [d] => { results := [.lit (.bool false)], args := [d] }
  | _ => none }
def RegisterHoldersWrongFalsely : Prop := registerHoldersRow.holds Tryz.pinned (OpenSpec.ofChange registerHoldersWrong)

/-- 'supercargolaw23.RegisterPlays': WHATEVER THE INPUT: true; the input reads as it did. -/
def registerPlaysSpec : ChangeSpec := { name := "registerPlays", fn := fun _ => fun
  | [d1, d2, d3, d4, d5] => { results := [.lit (.bool true)], args := [d1, d2, d3, d4, d5] }
  | _ => none }
def registerPlaysRow : OpenClaim := { program := "ytfbjpfgglgffgaagreat", sum := "1e479721eb1e21087e369860b8b26f4de247018dde9303266b85634774259483", func := "supercargo/supercargolaw23.RegisterPlays", spec := "registerPlays", unfollowed := true, recurses := true, apart := false }
def RegisterPlaysSaid : Prop := registerPlaysRow.holds Tryz.pinned (OpenSpec.ofChange registerPlaysSpec)

/-- ITS FALSE NEIGHBOUR: 'it returns false'. Refute it at one input. -/
def registerPlaysWrong : ChangeSpec := { name := "registerPlays", fn := fun _ => fun
  | [d1, d2, d3, d4, d5] => { results := [.lit (.bool false)], args := [d1, d2, d3, d4, d5] }
  | _ => none }
def RegisterPlaysWrongFalsely : Prop := registerPlaysRow.holds Tryz.pinned (OpenSpec.ofChange registerPlaysWrong)

/-- 'supercargolaw23.RegisterSteps': WHATEVER THE INPUT: true; the input reads as it did. -/
def registerStepsSpec : ChangeSpec := { name := "registerSteps", fn := fun _ => fun
  | [d1, d2, d3] => { results := [.lit (.bool true)], args := [d1, d2, d3] }
  | _ => none }
def registerStepsRow : OpenClaim := { program := "ytfbjpfgglgffgaagreat", sum := "1e479721eb1e21087e369860b8b26f4de247018dde9303266b85634774259483", func := "supercargo/supercargolaw23.RegisterSteps", spec := "registerSteps", unfollowed := true, recurses := true, apart := false }
def RegisterStepsSaid : Prop := registerStepsRow.holds Tryz.pinned (OpenSpec.ofChange registerStepsSpec)

/-- ITS FALSE NEIGHBOUR: 'it returns false'. Refute it at one input. -/
def registerStepsWrong : ChangeSpec := { name := "registerSteps", fn := fun _ => fun
  | [d1, d2, d3] => { results := [.lit (.bool false)], args := [d1, d2, d3] }
  | _ => none }
def RegisterStepsWrongFalsely : Prop := registerStepsRow.holds Tryz.pinned (OpenSpec.ofChange registerStepsWrong)

/-- 'supercargolaw23.RegisterOnly': WHATEVER THE INPUT: true; the input reads as it did. -/
def registerOnlySpec : ChangeSpec := { name := "registerOnly", fn := fun _ => fun
  | [d1, d2, d3] => { results := [.lit (.bool true)], args := [d1, d2, d3] }
  | _ => none }
def registerOnlyRow : OpenClaim := { program := "ytfbjpfgglgffgaagreat", sum := "1e479721eb1e21087e369860b8b26f4de247018dde9303266b85634774259483", func := "supercargo/supercargolaw23.RegisterOnly", spec := "registerOnly", unfollowed := true, recurses := true, apart := false }
def RegisterOnlySaid : Prop := registerOnlyRow.holds Tryz.pinned (OpenSpec.ofChange registerOnlySpec)

/-- ITS FALSE NEIGHBOUR: 'it returns false'. Refute it at one input. -/
def registerOnlyWrong : ChangeSpec := { name := "registerOnly", fn := fun _ => fun
  | [d1, d2, d3] => { results := [.lit (.bool false)], args := [d1, d2, d3] }
  | _ => none }
def RegisterOnlyWrongFalsely : Prop := registerOnlyRow.holds Tryz.pinned (OpenSpec.ofChange registerOnlyWrong)

/-- 'supercargolaw23.RegisterCopies': WHATEVER THE INPUT: true; the input reads as it did. -/
def registerCopiesSpec : ChangeSpec := { name := "registerCopies", fn := fun _ => fun
  | [d1, d2, d3, d4] => { results := [.lit (.bool true)], args := [d1, d2, d3, d4] }
  | _ => none }
def registerCopiesRow : OpenClaim := { program := "ytfbjpfgglgffgaagreat", sum := "1e479721eb1e21087e369860b8b26f4de247018dde9303266b85634774259483", func := "supercargo/supercargolaw23.RegisterCopies", spec := "registerCopies", unfollowed := true, recurses := true, apart := false }
def RegisterCopiesSaid : Prop := registerCopiesRow.holds Tryz.pinned (OpenSpec.ofChange registerCopiesSpec)

/-- ITS FALSE NEIGHBOUR: 'it returns false'. Refute it at one input. -/
def registerCopiesWrong : ChangeSpec := { name := "registerCopies", fn := fun _ => fun
  | [d1, d2, d3, d4] => { results := [.lit (.bool false)], args := [d1, d2, d3, d4] }
  | _ => none }
def RegisterCopiesWrongFalsely : Prop := registerCopiesRow.holds Tryz.pinned (OpenSpec.ofChange registerCopiesWrong)

/- THE SECOND FORM. 'bulk': how many values and letters a reading holds, each counted each time it is reached (what is shared counts as often as it is met; a slice's spare places count too). A statement '..UptoSaid' is the law's where the arguments, and the package variables that the reading takes, are together of bulk at most 1048576: NARROWER than '..Said'. Prove '..Said' where nothing that the law and all that it calls make is longer than what came in: it says more and counts as full. Else prove '..UptoSaid'. A law counts once. -/
mutual
def uptoBulk {H : Type} : DataW H → Nat
  | .lit (.string bytes) => bytes.length + 1
  | .lit _ => 1
  | .nil => 1
  | .ptr d => uptoBulk d + 1
  | .slice elems spare => uptoBulkAll elems + uptoBulkAll spare + 1
  | .agg parts => uptoBulkAll parts + 1
  | .iface _ d => uptoBulk d + 1
  | .map entries => uptoBulkEntries entries + 1
  | .held _ => 1
def uptoBulkAll {H : Type} : List (DataW H) → Nat
  | [] => 0
  | d :: r => uptoBulk d + uptoBulkAll r
def uptoBulkEntries {H : Type} : List (Lit × DataW H) → Nat
  | [] => 0
  | x :: r => uptoBulkEntry x + uptoBulkEntries r
def uptoBulkEntry {H : Type} : Lit × DataW H → Nat
  | (.string bytes, d) => bytes.length + uptoBulk d + 1
  | (_, d) => uptoBulk d + 1
 end
def uptoSmall : (H : Type) → List (DataW H) → Bool := fun _ ds => decide (uptoBulkAll ds ≤ 1048576)
def OpenSpec.upto (s : _root_.Go.ChangeSpec) : _root_.Go.OpenSpec := { _root_.Go.OpenSpec.ofChange s with cond := some uptoSmall }

/-- 'supercargolaw23.RegisterBoxes', WHERE WHAT IT READS IS OF BULK AT MOST 1048576: true; the input reads as it did. -/
def registerBoxesUptoRow : OpenClaim := { program := "ytfbjpfgglgffgaagreat", sum := "1e479721eb1e21087e369860b8b26f4de247018dde9303266b85634774259483", func := "supercargo/supercargolaw23.RegisterBoxes", spec := "registerBoxes", unfollowed := true, recurses := true, apart := false, narrowed := true }
def RegisterBoxesUptoSaid : Prop := registerBoxesUptoRow.holds Tryz.pinned (OpenSpec.upto registerBoxesSpec)

/-- 'supercargolaw23.RegisterHolders', WHERE WHAT IT READS IS OF BULK AT MOST 1048576: true; the input reads as it did. -/
def registerHoldersUptoRow : OpenClaim := { program := "ytfbjpfgglgffgaagreat", sum := "1e479721eb1e21087e369860b8b26f4de247018dde9303266b85634774259483", func := "supercargo/supercargolaw23.RegisterHolders", spec := "registerHolders", unfollowed := true, recurses := true, apart := false, narrowed := true }
def RegisterHoldersUptoSaid : Prop := registerHoldersUptoRow.holds Tryz.pinned (OpenSpec.upto registerHoldersSpec)

/-- 'supercargolaw23.RegisterPlays', WHERE WHAT IT READS IS OF BULK AT MOST 1048576: true; the input reads as it did. -/
def registerPlaysUptoRow : OpenClaim := { program := "ytfbjpfgglgffgaagreat", sum := "1e479721eb1e21087e369860b8b26f4de247018dde9303266b85634774259483", func := "supercargo/supercargolaw23.RegisterPlays", spec := "registerPlays", unfollowed := true, recurses := true, apart := false, narrowed := true }
def RegisterPlaysUptoSaid : Prop := registerPlaysUptoRow.holds Tryz.pinned (OpenSpec.upto registerPlaysSpec)

/-- 'supercargolaw23.RegisterSteps', WHERE WHAT IT READS IS OF BULK AT MOST 1048576: true; the input reads as it did. -/
def registerStepsUptoRow : OpenClaim := { program := "ytfbjpfgglgffgaagreat", sum := "1e479721eb1e21087e369860b8b26f4de247018dde9303266b85634774259483", func := "supercargo/supercargolaw23.RegisterSteps", spec := "registerSteps", unfollowed := true, recurses := true, apart := false, narrowed := true }
def RegisterStepsUptoSaid : Prop := registerStepsUptoRow.holds Tryz.pinned (OpenSpec.upto registerStepsSpec)

/-- 'supercargolaw23.RegisterOnly', WHERE WHAT IT READS IS OF BULK AT MOST 1048576: true; the input reads as it did. -/
def registerOnlyUptoRow : OpenClaim := { program := "ytfbjpfgglgffgaagreat", sum := "1e479721eb1e21087e369860b8b26f4de247018dde9303266b85634774259483", func := "supercargo/supercargolaw23.RegisterOnly", spec := "registerOnly", unfollowed := true, recurses := true, apart := false, narrowed := true }
def RegisterOnlyUptoSaid : Prop := registerOnlyUptoRow.holds Tryz.pinned (OpenSpec.upto registerOnlySpec)

/-- 'supercargolaw23.RegisterCopies', WHERE WHAT IT READS IS OF BULK AT MOST 1048576: true; the input reads as it did. -/
def registerCopiesUptoRow : OpenClaim := { program := "ytfbjpfgglgffgaagreat", sum := "1e479721eb1e21087e369860b8b26f4de247018dde9303266b85634774259483", func := "supercargo/supercargolaw23.RegisterCopies", spec := "registerCopies", unfollowed := true, recurses := true, apart := false, narrowed := true }
def RegisterCopiesUptoSaid : Prop := registerCopiesUptoRow.holds Tryz.pinned (OpenSpec.upto registerCopiesSpec)

end Rows
end Go.Proofs.YtfbjpfgglgffgaaGreat
