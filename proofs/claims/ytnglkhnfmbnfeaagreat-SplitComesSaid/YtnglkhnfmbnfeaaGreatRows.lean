/-
  No cell of these rows narrows 'for every input' (looked for: loops, veiled, ifaces, maps, wideKeys, modest, calm, conditions, laid).
  DERIVED. THE GIVEN ROWS OF THIS SEAT. 7 by the template 'for every input the law returns true; each argument reads behind the call as it read before'; 0 by the template 'total and deterministic' (their statements: YtnglkhnfmbnfeaaGreatTotals.lean).
  GIVEN WITH THE SEED: the statements are not yours to turn. If you find one false, say at which input.
  Laid BY PROGRAM, IN A SANDBOX (cutbox-rows.mjs): the forced cells as the released guide's own fill.sh prints them over the translation 35a8b685b166c634… (all of the seat's roots in one cut). By AI agents, Wed Nov 11 2026. No macro, syntax, notation, axiom, sorry.
-/
import Derived.Test.YtnglkhnfmbnfeaaGreatChecked
import GoSem.Claim
import GoSem.ClaimJoined
import GoSem.ClaimMapViews
import Derived.JoinedTies
import Derived.KernelRfl
namespace Go.Proofs.YtnglkhnfmbnfeaaGreat
/- THE CELL 'sum', in the pinned program and in every row, IS THE sha256 OF THE DUMP (.gsa) THAT YtnglkhnfmbnfeaaGreatProg.lean LOADS. Nothing in Lean hashes anything: it is a label: what it is worth is what the hold of that sum in a sandbox is worth. -/
noncomputable def Tryz.pinned : Pinned := { name := "ytnglkhnfmbnfeaagreat", sum := "35a8b685b166c63496e33598c5fd44fffd3b369c8ba894990e5ac7da24f61a66", checked := Tryz.checked }
namespace Rows
def none {H : Type} : Left H := { results := [], args := [] }

/-- 'supercargolaw24.SplitBack': WHATEVER THE INPUT: true; the input reads as it did. -/
def splitBackSpec : ChangeSpec := { name := "splitBack", fn := fun _ => fun
  | [d1, d2, d3, d4, d5] => { results := [.lit (.bool true)], args := [d1, d2, d3, d4, d5] }
  | _ => none }
def splitBackRow : OpenClaim := { program := "ytnglkhnfmbnfeaagreat", sum := "35a8b685b166c63496e33598c5fd44fffd3b369c8ba894990e5ac7da24f61a66", func := "supercargo/supercargolaw24.SplitBack", spec := "splitBack", unfollowed := true, recurses := true, apart := false }
def SplitBackSaid : Prop := splitBackRow.holds Tryz.pinned (OpenSpec.ofChange splitBackSpec)

/-- ITS FALSE NEIGHBOUR: 'it returns false'. Refute it at one input. -/
def splitBackWrong : ChangeSpec := { name := "splitBack", fn := fun _ => fun
  | [d1, d2, d3, d4, d5] => { results := [.lit (.bool false)], args := [d1, d2, d3, d4, d5] }
  | _ => none }
def SplitBackWrongFalsely : Prop := splitBackRow.holds Tryz.pinned (OpenSpec.ofChange splitBackWrong)

/-- 'supercargolaw24.SplitOnce': WHATEVER THE INPUT: true; the input reads as it did. -/
def splitOnceSpec : ChangeSpec := { name := "splitOnce", fn := fun _ => fun
  | [d1, d2, d3, d4] => { results := [.lit (.bool true)], args := [d1, d2, d3, d4] }
  | _ => none }
def splitOnceRow : OpenClaim := { program := "ytnglkhnfmbnfeaagreat", sum := "35a8b685b166c63496e33598c5fd44fffd3b369c8ba894990e5ac7da24f61a66", func := "supercargo/supercargolaw24.SplitOnce", spec := "splitOnce", unfollowed := true, recurses := true, apart := false }
def SplitOnceSaid : Prop := splitOnceRow.holds Tryz.pinned (OpenSpec.ofChange splitOnceSpec)

/-- ITS FALSE NEIGHBOUR: 'it returns false'. Refute it at one input. -/
def splitOnceWrong : ChangeSpec := { name := "splitOnce", fn := fun _ => fun
  | [d1, d2, d3, d4] => { results := [.lit (.bool false)], args := [d1, d2, d3, d4] }
  | _ => none }
def SplitOnceWrongFalsely : Prop := splitOnceRow.holds Tryz.pinned (OpenSpec.ofChange splitOnceWrong)

/-- 'supercargolaw24.SplitComes': WHATEVER THE INPUT: true; the input reads as it did. -/
def splitComesSpec : ChangeSpec := { name := "splitComes", fn := fun _ => fun
  | [d1, d2, d3] => { results := [.lit (.bool true)], args := [d1, d2, d3] }
  | _ => none }
def splitComesRow : OpenClaim := { program := "ytnglkhnfmbnfeaagreat", sum := "35a8b685b166c63496e33598c5fd44fffd3b369c8ba894990e5ac7da24f61a66", func := "supercargo/supercargolaw24.SplitComes", spec := "splitComes", unfollowed := true, recurses := true, apart := false }
def SplitComesSaid : Prop := splitComesRow.holds Tryz.pinned (OpenSpec.ofChange splitComesSpec)

/-- ITS FALSE NEIGHBOUR: 'it returns false'. Refute it at one input. -/
def splitComesWrong : ChangeSpec := { name := "splitComes", fn := fun _ => fun
  | [d1, d2, d3] => { results := [.lit (.bool false)], args := [d1, d2, d3] }
  | _ => none }
def SplitComesWrongFalsely : Prop := splitComesRow.holds Tryz.pinned (OpenSpec.ofChange splitComesWrong)

/-- 'supercargolaw24.SplitCovers': WHATEVER THE INPUT: true; the input reads as it did. -/
def splitCoversSpec : ChangeSpec := { name := "splitCovers", fn := fun _ => fun
  | [d1, d2] => { results := [.lit (.bool true)], args := [d1, d2] }
  | _ => none }
def splitCoversRow : OpenClaim := { program := "ytnglkhnfmbnfeaagreat", sum := "35a8b685b166c63496e33598c5fd44fffd3b369c8ba894990e5ac7da24f61a66", func := "supercargo/supercargolaw24.SplitCovers", spec := "splitCovers", unfollowed := true, recurses := true, apart := false }
def SplitCoversSaid : Prop := splitCoversRow.holds Tryz.pinned (OpenSpec.ofChange splitCoversSpec)

/-- ITS FALSE NEIGHBOUR: 'it returns false'. Refute it at one input. -/
def splitCoversWrong : ChangeSpec := { name := "splitCovers", fn := fun _ => fun
  | [d1, d2] => { results := [.lit (.bool false)], args := [d1, d2] }
  | _ => none }
def SplitCoversWrongFalsely : Prop := splitCoversRow.holds Tryz.pinned (OpenSpec.ofChange splitCoversWrong)

/-- 'supercargolaw24.SplitPlays': WHATEVER THE INPUT: true; the input reads as it did. -/
def splitPlaysSpec : ChangeSpec := { name := "splitPlays", fn := fun _ => fun
  | [d1, d2, d3, d4] => { results := [.lit (.bool true)], args := [d1, d2, d3, d4] }
  | _ => none }
def splitPlaysRow : OpenClaim := { program := "ytnglkhnfmbnfeaagreat", sum := "35a8b685b166c63496e33598c5fd44fffd3b369c8ba894990e5ac7da24f61a66", func := "supercargo/supercargolaw24.SplitPlays", spec := "splitPlays", unfollowed := true, recurses := true, apart := false }
def SplitPlaysSaid : Prop := splitPlaysRow.holds Tryz.pinned (OpenSpec.ofChange splitPlaysSpec)

/-- ITS FALSE NEIGHBOUR: 'it returns false'. Refute it at one input. -/
def splitPlaysWrong : ChangeSpec := { name := "splitPlays", fn := fun _ => fun
  | [d1, d2, d3, d4] => { results := [.lit (.bool false)], args := [d1, d2, d3, d4] }
  | _ => none }
def SplitPlaysWrongFalsely : Prop := splitPlaysRow.holds Tryz.pinned (OpenSpec.ofChange splitPlaysWrong)

/-- 'supercargolaw24.SplitHolders': WHATEVER THE INPUT: true; the input reads as it did. -/
def splitHoldersSpec : ChangeSpec := { name := "splitHolders", fn := fun _ => fun
  | [d1, d2] => { results := [.lit (.bool true)], args := [d1, d2] }
  | _ => none }
def splitHoldersRow : OpenClaim := { program := "ytnglkhnfmbnfeaagreat", sum := "35a8b685b166c63496e33598c5fd44fffd3b369c8ba894990e5ac7da24f61a66", func := "supercargo/supercargolaw24.SplitHolders", spec := "splitHolders", unfollowed := true, recurses := true, apart := false }
def SplitHoldersSaid : Prop := splitHoldersRow.holds Tryz.pinned (OpenSpec.ofChange splitHoldersSpec)

/-- ITS FALSE NEIGHBOUR: 'it returns false'. Refute it at one input. -/
def splitHoldersWrong : ChangeSpec := { name := "splitHolders", fn := fun _ => fun
  | [d1, d2] => { results := [.lit (.bool false)], args := [d1, d2] }
  | _ => none }
def SplitHoldersWrongFalsely : Prop := splitHoldersRow.holds Tryz.pinned (OpenSpec.ofChange splitHoldersWrong)

/-- 'supercargolaw24.SplitSwitched': WHATEVER THE INPUT: true; the input reads as it did. -/
def splitSwitchedSpec : ChangeSpec := { name := "splitSwitched", fn := fun _ => fun
  | [d1, d2, d3, d4, d5, d6] => { results := [.lit (.bool true)], args := [d1, d2, d3, d4, d5, d6] }
  | _ => none }
def splitSwitchedRow : OpenClaim := { program := "ytnglkhnfmbnfeaagreat", sum := "35a8b685b166c63496e33598c5fd44fffd3b369c8ba894990e5ac7da24f61a66", func := "supercargo/supercargolaw24.SplitSwitched", spec := "splitSwitched", unfollowed := true, recurses := true, apart := false }
def SplitSwitchedSaid : Prop := splitSwitchedRow.holds Tryz.pinned (OpenSpec.ofChange splitSwitchedSpec)

/-- ITS FALSE NEIGHBOUR: 'it returns false'. Refute it at one input. -/
def splitSwitchedWrong : ChangeSpec := { name := "splitSwitched", fn := fun _ => fun
  | [d1, d2, d3, d4, d5, d6] => { results := [.lit (.bool false)], args := [d1, d2, d3, d4, d5, d6] }
  | _ => none }
def SplitSwitchedWrongFalsely : Prop := splitSwitchedRow.holds Tryz.pinned (OpenSpec.ofChange splitSwitchedWrong)

/- THE SECOND FORM. 'bulk': how many values and letters a reading holds, each counted each time it is reached (what is shared counts as often as it is met; a slice's spare places count too). A statement '..UptoSaid' is the law's where the arguments, and the package variables that the reading takes, are together of bulk at most 1048576: NARROWER than '..Said'. Prove '..Said' where nothing that the law and all that it calls make is longer than what came in: it says more and counts as full. Else prove '..UptoSaid'. A law counts once. -/
mutual
def uptoBulk {H : Type} : DataW H → Nat
  | .lit (.string bytes) => bytes.length + 1
  | .lit _ => 1
  | .nil => 1
  | .ptr d => uptoBulk d + 1
  | .slice elems spare => uptoBulkAll elems + uptoBulkAll spare + 1
  | .agg parts => uptoBulkAll parts + 1
  | .iface _ d => uptoBulk d + 1
  | .map entries => uptoBulkEntries entries + 1
  | .held _ => 1
def uptoBulkAll {H : Type} : List (DataW H) → Nat
  | [] => 0
  | d :: r => uptoBulk d + uptoBulkAll r
def uptoBulkEntries {H : Type} : List (Lit × DataW H) → Nat
  | [] => 0
  | x :: r => uptoBulkEntry x + uptoBulkEntries r
def uptoBulkEntry {H : Type} : Lit × DataW H → Nat
  | (.string bytes, d) => bytes.length + uptoBulk d + 1
  | (_, d) => uptoBulk d + 1
 end
def uptoSmall : (H : Type) → List (DataW H) → Bool := fun _ ds => decide (uptoBulkAll ds ≤ 1048576)
def OpenSpec.upto (s : _root_.Go.ChangeSpec) : _root_.Go.OpenSpec := { _root_.Go.OpenSpec.ofChange s with cond := some uptoSmall }

/-- 'supercargolaw24.SplitBack', WHERE WHAT IT READS IS OF BULK AT MOST 1048576: true; the input reads as it did. -/
def splitBackUptoRow : OpenClaim := { program := "ytnglkhnfmbnfeaagreat", sum := "35a8b685b166c63496e33598c5fd44fffd3b369c8ba894990e5ac7da24f61a66", func := "supercargo/supercargolaw24.SplitBack", spec := "splitBack", unfollowed := true, recurses := true, apart := false, narrowed := true }
def SplitBackUptoSaid : Prop := splitBackUptoRow.holds Tryz.pinned (OpenSpec.upto splitBackSpec)

/-- 'supercargolaw24.SplitOnce', WHERE WHAT IT READS IS OF BULK AT MOST 1048576: true; the input reads as it did. -/
def splitOnceUptoRow : OpenClaim := { program := "ytnglkhnfmbnfeaagreat", sum := "35a8b685b166c63496e33598c5fd44fffd3b369c8ba894990e5ac7da24f61a66", func := "supercargo/supercargolaw24.SplitOnce", spec := "splitOnce", unfollowed := true, recurses := true, apart := false, narrowed := true }
def SplitOnceUptoSaid : Prop := splitOnceUptoRow.holds Tryz.pinned (OpenSpec.upto splitOnceSpec)

/-- 'supercargolaw24.SplitComes', WHERE WHAT IT READS IS OF BULK AT MOST 1048576: true; the input reads as it did. -/
def splitComesUptoRow : OpenClaim := { program := "ytnglkhnfmbnfeaagreat", sum := "35a8b685b166c63496e33598c5fd44fffd3b369c8ba894990e5ac7da24f61a66", func := "supercargo/supercargolaw24.SplitComes", spec := "splitComes", unfollowed := true, recurses := true, apart := false, narrowed := true }
def SplitComesUptoSaid : Prop := splitComesUptoRow.holds Tryz.pinned (OpenSpec.upto splitComesSpec)

/-- 'supercargolaw24.SplitCovers', WHERE WHAT IT READS IS OF BULK AT MOST 1048576: true; the input reads as it did. -/
def splitCoversUptoRow : OpenClaim := { program := "ytnglkhnfmbnfeaagreat", sum := "35a8b685b166c63496e33598c5fd44fffd3b369c8ba894990e5ac7da24f61a66", func := "supercargo/supercargolaw24.SplitCovers", spec := "splitCovers", unfollowed := true, recurses := true, apart := false, narrowed := true }
def SplitCoversUptoSaid : Prop := splitCoversUptoRow.holds Tryz.pinned (OpenSpec.upto splitCoversSpec)

/-- 'supercargolaw24.SplitPlays', WHERE WHAT IT READS IS OF BULK AT MOST 1048576: true; the input reads as it did. -/
def splitPlaysUptoRow : OpenClaim := { program := "ytnglkhnfmbnfeaagreat", sum := "35a8b685b166c63496e33598c5fd44fffd3b369c8ba894990e5ac7da24f61a66", func := "supercargo/supercargolaw24.SplitPlays", spec := "splitPlays", unfollowed := true, recurses := true, apart := false, narrowed := true }
def SplitPlaysUptoSaid : Prop := splitPlaysUptoRow.holds Tryz.pinned (OpenSpec.upto splitPlaysSpec)

/-- 'supercargolaw24.SplitHolders', WHERE WHAT IT READS IS OF BULK AT MOST 1048576: true; the input reads as it did. -/
def splitHoldersUptoRow : OpenClaim := { program := "ytnglkhnfmbnfeaagreat", sum := "35a8b685b166c63496e33598c5fd44fffd3b369c8ba894990e5ac7da24f61a66", func := "supercargo/supercargolaw24.SplitHolders", spec := "splitHolders", unfollowed := true, recurses := true, apart := false, narrowed := true }
def SplitHoldersUptoSaid : Prop := splitHoldersUptoRow.holds Tryz.pinned (OpenSpec.upto splitHoldersSpec)

/-- 'supercargolaw24.SplitSwitched', WHERE WHAT IT READS IS OF BULK AT MOST 1048576: true; the input reads as it did. -/
def splitSwitchedUptoRow : OpenClaim := { program := "ytnglkhnfmbnfeaagreat", sum := "35a8b685b166c63496e33598c5fd44fffd3b369c8ba894990e5ac7da24f61a66", func := "supercargo/supercargolaw24.SplitSwitched", spec := "splitSwitched", unfollowed := true, recurses := true, apart := false, narrowed := true }
def SplitSwitchedUptoSaid : Prop := splitSwitchedUptoRow.holds Tryz.pinned (OpenSpec.upto splitSwitchedSpec)

end Rows
end Go.Proofs.YtnglkhnfmbnfeaaGreat
