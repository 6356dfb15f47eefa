/-
  No cell of these rows narrows 'for every input' (looked for: loops, veiled, ifaces, maps, wideKeys, modest, calm, conditions, laid).
  DERIVED. THE GIVEN ROWS OF THIS SEAT. 3 by the template 'for every input the law returns true; each argument reads behind the call as it read before'; 0 by the template 'total and deterministic' (their statements: YtdhngmldmalbbaaTotals.lean).
  GIVEN WITH THE SEED: the statements are not yours to turn. If you find one false, say at which input.
  Laid BY PROGRAM, IN A SANDBOX (cutbox-rows.mjs): the forced cells as the released guide's own fill.sh prints them over the translation d1b6edea0b87e027… (all of the seat's roots in one cut). By AI agents, Wed Nov 11 2026. No macro, syntax, notation, axiom, sorry.
-/
import Derived.Test.YtdhngmldmalbbaaChecked
import GoSem.Claim
import GoSem.ClaimJoined
import GoSem.ClaimMapViews
import Derived.JoinedTies
import Derived.KernelRfl
namespace Go.Proofs.Ytdhngmldmalbbaa
/- THE CELL 'sum', in the pinned program and in every row, IS THE sha256 OF THE DUMP (.gsa) THAT YtdhngmldmalbbaaProg.lean LOADS. Nothing in Lean hashes anything: it is a label: what it is worth is what the hold of that sum in a sandbox is worth. -/
noncomputable def Try.pinned : Pinned := { name := "ytdhngmldmalbbaa", sum := "d1b6edea0b87e0273807cabb7b39d24bdcdca4359c76aff79a576ef7cfea4dd8", checked := Try.checked }
namespace Rows
def none {H : Type} : Left H := { results := [], args := [] }

/-- 'synopticlaw35.StoreCodes': WHATEVER THE INPUT: true; the input reads as it did. -/
def storeCodesSpec : ChangeSpec := { name := "storeCodes", fn := fun _ => fun
  | [d1, d2, d3, d4, d5] => { results := [.lit (.bool true)], args := [d1, d2, d3, d4, d5] }
  | _ => none }
def storeCodesRow : OpenClaim := { program := "ytdhngmldmalbbaa", sum := "d1b6edea0b87e0273807cabb7b39d24bdcdca4359c76aff79a576ef7cfea4dd8", func := "synoptic/synopticlaw35.StoreCodes", spec := "storeCodes", unfollowed := true, recurses := true, apart := false }
def StoreCodesSaid : Prop := storeCodesRow.holds Try.pinned (OpenSpec.ofChange storeCodesSpec)

/-- ITS FALSE NEIGHBOUR: 'it returns false'. Refute it at one input. -/
def storeCodesWrong : ChangeSpec := { name := "storeCodes", fn := fun _ => fun
  | [d1, d2, d3, d4, d5] => { results := [.lit (.bool false)], args := [d1, d2, d3, d4, d5] }
  | _ => none }
def StoreCodesWrongFalsely : Prop := storeCodesRow.holds Try.pinned (OpenSpec.ofChange storeCodesWrong)

/-- 'synopticlaw35.StoreReturns': WHATEVER THE INPUT: true; the input reads as it did. -/
def storeReturnsSpec : ChangeSpec := { name := "storeReturns", fn := fun _ => fun
  | [d1, d2] => { results := [.lit (.bool true)], args := [d1, d2] }
  | _ => none }
def storeReturnsRow : OpenClaim := { program := "ytdhngmldmalbbaa", sum := "d1b6edea0b87e0273807cabb7b39d24bdcdca4359c76aff79a576ef7cfea4dd8", func := "synoptic/synopticlaw35.StoreReturns", spec := "storeReturns", unfollowed := true, recurses := true, apart := false }
def StoreReturnsSaid : Prop := storeReturnsRow.holds Try.pinned (OpenSpec.ofChange storeReturnsSpec)

/-- ITS FALSE NEIGHBOUR: 'it returns false'. Refute it at one input. -/
def storeReturnsWrong : ChangeSpec := { name := "storeReturns", fn := fun _ => fun
  | [d1, d2] => { results := [.lit (.bool false)], args := [d1, d2] }
  | _ => none }
def StoreReturnsWrongFalsely : Prop := storeReturnsRow.holds Try.pinned (OpenSpec.ofChange storeReturnsWrong)

/-- 'synopticlaw35.StoreCrashes': WHATEVER THE INPUT: true; the input reads as it did. -/
def storeCrashesSpec : ChangeSpec := { name := "storeCrashes", fn := fun _ => fun
  | [d1, d2, d3, d4] => { results := [.lit (.bool true)], args := [d1, d2, d3, d4] }
  | _ => none }
def storeCrashesRow : OpenClaim := { program := "ytdhngmldmalbbaa", sum := "d1b6edea0b87e0273807cabb7b39d24bdcdca4359c76aff79a576ef7cfea4dd8", func := "synoptic/synopticlaw35.StoreCrashes", spec := "storeCrashes", unfollowed := true, recurses := true, apart := false }
def StoreCrashesSaid : Prop := storeCrashesRow.holds Try.pinned (OpenSpec.ofChange storeCrashesSpec)

/-- ITS FALSE NEIGHBOUR: 'it returns false'. Refute it at one input. -/
def storeCrashesWrong : ChangeSpec := { name := "storeCrashes", fn := fun _ => fun
  | [d1, d2, d3, d4] => { results := [.lit (.bool false)], args := [d1, d2, d3, d4] }
  | _ => none }
def StoreCrashesWrongFalsely : Prop := storeCrashesRow.holds Try.pinned (OpenSpec.ofChange storeCrashesWrong)

/- THE SECOND FORM. 'bulk': how many values and letters a reading holds, each counted each time it is reached (what is shared counts as often as it is met; a slice's spare places count too). A statement '..UptoSaid' is the law's where the arguments, and the package variables that the reading takes, are together of bulk at most 1048576: NARROWER than '..Said'. Prove '..Said' where nothing that the law and all that it calls make is longer than what came in: it says more and counts as full. Else prove '..UptoSaid'. A law counts once. -/
mutual
def uptoBulk {H : Type} : DataW H → Nat
  | .lit (.string bytes) => bytes.length + 1
  | .lit _ => 1
  | .nil => 1
  | .ptr d => uptoBulk d + 1
  | .slice elems spare => uptoBulkAll elems + uptoBulkAll spare + 1
  | .agg parts => uptoBulkAll parts + 1
  | .iface _ d => uptoBulk d + 1
  | .map entries => uptoBulkEntries entries + 1
  | .held _ => 1
def uptoBulkAll {H : Type} : List (DataW H) → Nat
  | [] => 0
  | d :: r => uptoBulk d + uptoBulkAll r
def uptoBulkEntries {H : Type} : List (Lit × DataW H) → Nat
  | [] => 0
  | x :: r => uptoBulkEntry x + uptoBulkEntries r
def uptoBulkEntry {H : Type} : Lit × DataW H → Nat
  | (.string bytes, d) => bytes.length + uptoBulk d + 1
  | (_, d) => uptoBulk d + 1
 end
def uptoSmall : (H : Type) → List (DataW H) → Bool := fun _ ds => decide (uptoBulkAll ds ≤ 1048576)
def OpenSpec.upto (s : _root_.Go.ChangeSpec) : _root_.Go.OpenSpec := { _root_.Go.OpenSpec.ofChange s with cond := some uptoSmall }

/-- 'synopticlaw35.StoreCodes', WHERE WHAT IT READS IS OF BULK AT MOST 1048576: true; the input reads as it did. -/
def storeCodesUptoRow : OpenClaim := { program := "ytdhngmldmalbbaa", sum := "d1b6edea0b87e0273807cabb7b39d24bdcdca4359c76aff79a576ef7cfea4dd8", func := "synoptic/synopticlaw35.StoreCodes", spec := "storeCodes", unfollowed := true, recurses := true, apart := false, narrowed := true }
def StoreCodesUptoSaid : Prop := storeCodesUptoRow.holds Try.pinned (OpenSpec.upto storeCodesSpec)

/-- 'synopticlaw35.StoreReturns', WHERE WHAT IT READS IS OF BULK AT MOST 1048576: true; the input reads as it did. -/
def storeReturnsUptoRow : OpenClaim := { program := "ytdhngmldmalbbaa", sum := "d1b6edea0b87e0273807cabb7b39d24bdcdca4359c76aff79a576ef7cfea4dd8", func := "synoptic/synopticlaw35.StoreReturns", spec := "storeReturns", unfollowed := true, recurses := true, apart := false, narrowed := true }
def StoreReturnsUptoSaid : Prop := storeReturnsUptoRow.holds Try.pinned (OpenSpec.upto storeReturnsSpec)

/-- 'synopticlaw35.StoreCrashes', WHERE WHAT IT READS IS OF BULK AT MOST 1048576: true; the input reads as it did. -/
def storeCrashesUptoRow : OpenClaim := { program := "ytdhngmldmalbbaa", sum := "d1b6edea0b87e0273807cabb7b39d24bdcdca4359c76aff79a576ef7cfea4dd8", func := "synoptic/synopticlaw35.StoreCrashes", spec := "storeCrashes", unfollowed := true, recurses := true, apart := false, narrowed := true }
def StoreCrashesUptoSaid : Prop := storeCrashesUptoRow.holds Try.pinned (OpenSpec.upto storeCrashesSpec)

end Rows
end Go.Proofs.Ytdhngmldmalbbaa
