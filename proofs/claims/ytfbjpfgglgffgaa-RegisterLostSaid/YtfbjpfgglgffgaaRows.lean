/-
  No cell of these rows narrows 'for every input' (looked for: loops, veiled, ifaces, maps, wideKeys, modest, calm, conditions, laid).
  DERIVED. THE GIVEN ROWS OF THIS SEAT. 3 by the template 'for every input the law returns true; each argument reads behind the call as it read before'; 0 by the template 'total and deterministic' (their statements: YtfbjpfgglgffgaaTotals.lean).
  GIVEN WITH THE SEED: the statements are not yours to turn. If you find one false, say at which input.
  Laid BY PROGRAM, IN A SANDBOX (cutbox-rows.mjs): the forced cells as the released guide's own fill.sh prints them over the translation 23aefc00769190f9… (all of the seat's roots in one cut). By AI agents, Wed Nov 11 2026. No macro, syntax, notation, axiom, sorry.
-/
import Derived.Test.YtfbjpfgglgffgaaChecked
import GoSem.Claim
import GoSem.ClaimJoined
import GoSem.ClaimMapViews
import Derived.JoinedTies
import Derived.KernelRfl
namespace Go.Proofs.Ytfbjpfgglgffgaa
/- THE CELL 'sum', in the pinned program and in every row, IS THE sha256 OF THE DUMP (.gsa) THAT YtfbjpfgglgffgaaProg.lean LOADS. Nothing in Lean hashes anything: it is a label: what it is worth is what the hold of that sum in a sandbox is worth. -/
noncomputable def Try.pinned : Pinned := { name := "ytfbjpfgglgffgaa", sum := "23aefc00769190f9d9b880f9ef0c5bce91a20004a043512714b2018d6cfdf903", checked := Try.checked }
namespace Rows
def none {H : Type} : Left H := { results := [], args := [] }

/-- 'supercargolaw23.RegisterOnce': WHATEVER THE INPUT: true; the input reads as it did. -/
def registerOnceSpec : ChangeSpec := { name := "registerOnce", fn := fun _ => fun
  | [d1, d2, d3] => { results := [.lit (.bool true)], args := [d1, d2, d3] }
  | _ => none }
def registerOnceRow : OpenClaim := { program := "ytfbjpfgglgffgaa", sum := "23aefc00769190f9d9b880f9ef0c5bce91a20004a043512714b2018d6cfdf903", func := "supercargo/supercargolaw23.RegisterOnce", spec := "registerOnce", unfollowed := true, recurses := true, apart := false }
def RegisterOnceSaid : Prop := registerOnceRow.holds Try.pinned (OpenSpec.ofChange registerOnceSpec)

/-- ITS FALSE NEIGHBOUR: 'it returns false'. Refute it at one input. -/
def registerOnceWrong : ChangeSpec := { name := "registerOnce", fn := fun _ => fun
  | [d1, d2, d3] => { results := [.lit (.bool false)], args := [d1, d2, d3] }
  | _ => none }
def RegisterOnceWrongFalsely : Prop := registerOnceRow.holds Try.pinned (OpenSpec.ofChange registerOnceWrong)

/-- 'supercargolaw23.RegisterAll': WHATEVER THE INPUT: true; the input reads as it did. -/
def registerAllSpec : ChangeSpec := { name := "registerAll", fn := fun _ => fun
  | [d1, d2, d3, d4, d5] => { results := [.lit (.bool true)], args := [d1, d2, d3, d4, d5] }
  | _ => none }
def registerAllRow : OpenClaim := { program := "ytfbjpfgglgffgaa", sum := "23aefc00769190f9d9b880f9ef0c5bce91a20004a043512714b2018d6cfdf903", func := "supercargo/supercargolaw23.RegisterAll", spec := "registerAll", unfollowed := true, recurses := true, apart := false }
def RegisterAllSaid : Prop := registerAllRow.holds Try.pinned (OpenSpec.ofChange registerAllSpec)

/-- ITS FALSE NEIGHBOUR: 'it returns false'. Refute it at one input. -/
def registerAllWrong : ChangeSpec := { name := "registerAll", fn := fun _ => fun
  | [d1, d2, d3, d4, d5] => { results := [.lit (.bool false)], args := [d1, d2, d3, d4, d5] }
  | _ => none }
def RegisterAllWrongFalsely : Prop := registerAllRow.holds Try.pinned (OpenSpec.ofChange registerAllWrong)

/-- 'supercargolaw23.RegisterLost': WHATEVER THE INPUT: true; the input reads as it did. -/
def registerLostSpec : ChangeSpec := { name := "registerLost", fn := fun _ => fun
  | [d1, d2, d3, d4, d5, d6] => { results := [.lit (.bool true)], args := [d1, d2, d3, d4, d5, d6] }
  | _ => none }
def registerLostRow : OpenClaim := { program := "ytfbjpfgglgffgaa", sum := "23aefc00769190f9d9b880f9ef0c5bce91a20004a043512714b2018d6cfdf903", func := "supercargo/supercargolaw23.RegisterLost", spec := "registerLost", unfollowed := true, recurses := true, apart := false }
def RegisterLostSaid : Prop := registerLostRow.holds Try.pinned (OpenSpec.ofChange registerLostSpec)

/-- ITS FALSE NEIGHBOUR: 'it returns false'. Refute it at one input. -/
def registerLostWrong : ChangeSpec := { name := "registerLost", fn := fun _ => fun
  | [d1, d2, d3, d4, d5, d6] => { results := [.lit (.bool false)], args := [d1, d2, d3, d4, d5, d6] }
  | _ => none }
def RegisterLostWrongFalsely : Prop := registerLostRow.holds Try.pinned (OpenSpec.ofChange registerLostWrong)

/- THE SECOND FORM. 'bulk': how many values and letters a reading holds, each counted each time it is reached (what is shared counts as often as it is met; a slice's spare places count too). A statement '..UptoSaid' is the law's where the arguments, and the package variables that the reading takes, are together of bulk at most 1048576: NARROWER than '..Said'. Prove '..Said' where nothing that the law and all that it calls make is longer than what came in: it says more and counts as full. Else prove '..UptoSaid'. A law counts once. -/
mutual
def uptoBulk {H : Type} : DataW H → Nat
  | .lit (.string bytes) => bytes.length + 1
  | .lit _ => 1
  | .nil => 1
  | .ptr d => uptoBulk d + 1
  | .slice elems spare => uptoBulkAll elems + uptoBulkAll spare + 1
  | .agg parts => uptoBulkAll parts + 1
  | .iface _ d => uptoBulk d + 1
  | .map entries => uptoBulkEntries entries + 1
  | .held _ => 1
def uptoBulkAll {H : Type} : List (DataW H) → Nat
  | [] => 0
  | d :: r => uptoBulk d + uptoBulkAll r
def uptoBulkEntries {H : Type} : List (Lit × DataW H) → Nat
  | [] => 0
  | x :: r => uptoBulkEntry x + uptoBulkEntries r
def uptoBulkEntry {H : Type} : Lit × DataW H → Nat
  | (.string bytes, d) => bytes.length + uptoBulk d + 1
  | (_, d) => uptoBulk d + 1
 end
def uptoSmall : (H : Type) → List (DataW H) → Bool := fun _ ds => decide (uptoBulkAll ds ≤ 1048576)
def OpenSpec.upto (s : _root_.Go.ChangeSpec) : _root_.Go.OpenSpec := { _root_.Go.OpenSpec.ofChange s with cond := some uptoSmall }

/-- 'supercargolaw23.RegisterOnce', WHERE WHAT IT READS IS OF BULK AT MOST 1048576: true; the input reads as it did. -/
def registerOnceUptoRow : OpenClaim := { program := "ytfbjpfgglgffgaa", sum := "23aefc00769190f9d9b880f9ef0c5bce91a20004a043512714b2018d6cfdf903", func := "supercargo/supercargolaw23.RegisterOnce", spec := "registerOnce", unfollowed := true, recurses := true, apart := false, narrowed := true }
def RegisterOnceUptoSaid : Prop := registerOnceUptoRow.holds Try.pinned (OpenSpec.upto registerOnceSpec)

/-- 'supercargolaw23.RegisterAll', WHERE WHAT IT READS IS OF BULK AT MOST 1048576: true; the input reads as it did. -/
def registerAllUptoRow : OpenClaim := { program := "ytfbjpfgglgffgaa", sum := "23aefc00769190f9d9b880f9ef0c5bce91a20004a043512714b2018d6cfdf903", func := "supercargo/supercargolaw23.RegisterAll", spec := "registerAll", unfollowed := true, recurses := true, apart := false, narrowed := true }
def RegisterAllUptoSaid : Prop := registerAllUptoRow.holds Try.pinned (OpenSpec.upto registerAllSpec)

/-- 'supercargolaw23.RegisterLost', WHERE WHAT IT READS IS OF BULK AT MOST 1048576: true; the input reads as it did. -/
def registerLostUptoRow : OpenClaim := { program := "ytfbjpfgglgffgaa", sum := "23aefc00769190f9d9b880f9ef0c5bce91a20004a043512714b2018d6cfdf903", func := "supercargo/supercargolaw23.RegisterLost", spec := "registerLost", unfollowed := true, recurses := true, apart := false, narrowed := true }
def RegisterLostUptoSaid : Prop := registerLostUptoRow.holds Try.pinned (OpenSpec.upto registerLostSpec)

end Rows
end Go.Proofs.Ytfbjpfgglgffgaa
