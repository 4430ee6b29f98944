/-
  No cell of these rows narrows 'for every input' (looked for: loops, veiled, ifaces, maps, wideKeys, modest, calm, conditions, laid).
  DERIVED. THE GIVEN ROWS OF THIS SEAT. 8 by the template 'for every input the law returns true; each argument reads behind the call as it read before'; 0 by the template 'total and deterministic' (their statements: YteidhjdkaaddgaaTotals.lean).
  GIVEN WITH THE SEED: the statements are not yours to turn. If you find one false, say at which input.
  Laid BY PROGRAM, IN A SANDBOX (cutbox-rows.mjs): the forced cells as the released guide's own fill.sh prints them over the translation 44b595d06cc023ab… (all of the seat's roots in one cut). By AI agents, Wed Nov 11 2026. No macro, syntax, notation, axiom, sorry.
-/
import Derived.Test.YteidhjdkaaddgaaChecked
import GoSem.Claim
import GoSem.ClaimJoined
import GoSem.ClaimMapViews
import Derived.JoinedTies
import Derived.KernelRfl
namespace Go.Proofs.Yteidhjdkaaddgaa
/- THE CELL 'sum', in the pinned program and in every row, IS THE sha256 OF THE DUMP (.gsa) THAT YteidhjdkaaddgaaProg.lean LOADS. Nothing in Lean hashes anything: it is a label: what it is worth is what the hold of that sum in a sandbox is worth. -/
noncomputable def Try.pinned : Pinned := { name := "yteidhjdkaaddgaa", sum := "44b595d06cc023aba25ffb8e1b8de55119964eeb17e50f7fe3a2d31afc13bc30", checked := Try.checked }
namespace Rows
def none {H : Type} : Left H := { results := [], args := [] }

/-- 'pagecachelaw20.DriveThrough': WHATEVER THE INPUT: true; the input reads as it did. -/
def driveThroughSpec : ChangeSpec := { name := "driveThrough", fn := fun _ => fun
  | [d1, d2, d3, d4, d5] => { results := [.lit (.bool true)], args := [d1, d2, d3, d4, d5] }
  | _ => none }
def driveThroughRow : OpenClaim := { program := "yteidhjdkaaddgaa", sum := "44b595d06cc023aba25ffb8e1b8de55119964eeb17e50f7fe3a2d31afc13bc30", func := "pagecache/pagecachelaw20.DriveThrough", spec := "driveThrough", unfollowed := true, recurses := true, apart := false }
def DriveThroughSaid : Prop := driveThroughRow.holds Try.pinned (OpenSpec.ofChange driveThroughSpec)

/-- ITS FALSE NEIGHBOUR: 'it returns false'. Refute it at one input. -/
def driveThroughWrong : ChangeSpec := { name := "driveThrough", fn := fun _ => fun
  | [d1, d2, d3, d4, d5] => { results := [.lit (.bool false)], args := [d1, d2, d3, d4, d5] }
  | _ => none }
def DriveThroughWrongFalsely : Prop := driveThroughRow.holds Try.pinned (OpenSpec.ofChange driveThroughWrong)

/-- 'pagecachelaw20.DriveVersions': WHATEVER THE INPUT: true; the input reads as it did. -/
def driveVersionsSpec : ChangeSpec := { name := "driveVersions", fn := fun _ => fun
  | [d1, d2, d3, d4] => { results := [.lit (.bool true)], args := [d1, d2, d3, d4] }
  | _ => none }
def driveVersionsRow : OpenClaim := { program := "yteidhjdkaaddgaa", sum := "44b595d06cc023aba25ffb8e1b8de55119964eeb17e50f7fe3a2d31afc13bc30", func := "pagecache/pagecachelaw20.DriveVersions", spec := "driveVersions", unfollowed := true, recurses := true, apart := false }
def DriveVersionsSaid : Prop := driveVersionsRow.holds Try.pinned (OpenSpec.ofChange driveVersionsSpec)

/-- ITS FALSE NEIGHBOUR: 'it returns false'. Refute it at one input. -/
def driveVersionsWrong : ChangeSpec := { name := "driveVersions", fn := fun _ => fun
  | [d1, d2, d3, d4] => { results := [.lit (.bool false)], args := [d1, d2, d3, d4] }
  | _ => none }
def DriveVersionsWrongFalsely : Prop := driveVersionsRow.holds Try.pinned (OpenSpec.ofChange driveVersionsWrong)

/-- 'pagecachelaw20.DriveRoom': WHATEVER THE INPUT: true; the input reads as it did. -/
def driveRoomSpec : ChangeSpec := { name := "driveRoom", fn := fun _ => fun
  | [d1, d2, d3] => { results := [.lit (.bool true)], args := [d1, d2, d3] }
  | _ => none }
def driveRoomRow : OpenClaim := { program := "yteidhjdkaaddgaa", sum := "44b595d06cc023aba25ffb8e1b8de55119964eeb17e50f7fe3a2d31afc13bc30", func := "pagecache/pagecachelaw20.DriveRoom", spec := "driveRoom", inPlace := ["internal/abi.NoEscape"], unfollowed := true, recurses := true, apart := false }
def DriveRoomSaid : Prop := driveRoomRow.holds Try.pinned (OpenSpec.ofChange driveRoomSpec)

/-- ITS FALSE NEIGHBOUR: 'it returns false'. Refute it at one input. -/
def driveRoomWrong : ChangeSpec := { name := "driveRoom", fn := fun _ => fun
  | [d1, d2, d3] => { results := [.lit (.bool false)], args := [d1, d2, d3] }
  | _ => none }
def DriveRoomWrongFalsely : Prop := driveRoomRow.holds Try.pinned (OpenSpec.ofChange driveRoomWrong)

/-- 'pagecachelaw20.DriveCommutes': WHATEVER THE INPUT: true; the input reads as it did. -/
def driveCommutesSpec : ChangeSpec := { name := "driveCommutes", fn := fun _ => fun
  | [d1, d2, d3, d4, d5, d6] => { results := [.lit (.bool true)], args := [d1, d2, d3, d4, d5, d6] }
  | _ => none }
def driveCommutesRow : OpenClaim := { program := "yteidhjdkaaddgaa", sum := "44b595d06cc023aba25ffb8e1b8de55119964eeb17e50f7fe3a2d31afc13bc30", func := "pagecache/pagecachelaw20.DriveCommutes", spec := "driveCommutes", inPlace := ["internal/abi.NoEscape"], unfollowed := true, recurses := true, apart := false }
def DriveCommutesSaid : Prop := driveCommutesRow.holds Try.pinned (OpenSpec.ofChange driveCommutesSpec)

/-- ITS FALSE NEIGHBOUR: 'it returns false'. Refute it at one input. -/
def driveCommutesWrong : ChangeSpec := { name := "driveCommutes", fn := fun _ => fun
  | [d1, d2, d3, d4, d5, d6] => { results := [.lit (.bool false)], args := [d1, d2, d3, d4, d5, d6] }
  | _ => none }
def DriveCommutesWrongFalsely : Prop := driveCommutesRow.holds Try.pinned (OpenSpec.ofChange driveCommutesWrong)

/-- 'pagecachelaw20.DriveExact': WHATEVER THE INPUT: true; the input reads as it did. -/
def driveExactSpec : ChangeSpec := { name := "driveExact", fn := fun _ => fun
  | [d1, d2, d3, d4, d5, d6] => { results := [.lit (.bool true)], args := [d1, d2, d3, d4, d5, d6] }
  | _ => none }
def driveExactRow : OpenClaim := { program := "yteidhjdkaaddgaa", sum := "44b595d06cc023aba25ffb8e1b8de55119964eeb17e50f7fe3a2d31afc13bc30", func := "pagecache/pagecachelaw20.DriveExact", spec := "driveExact", inPlace := ["internal/abi.NoEscape"], unfollowed := true, recurses := true, apart := false }
def DriveExactSaid : Prop := driveExactRow.holds Try.pinned (OpenSpec.ofChange driveExactSpec)

/-- ITS FALSE NEIGHBOUR: 'it returns false'. Refute it at one input. -/
def driveExactWrong : ChangeSpec := { name := "driveExact", fn := fun _ => fun
  | [d1, d2, d3, d4, d5, d6] => { results := [.lit (.bool false)], args := [d1, d2, d3, d4, d5, d6] }
  | _ => none }
def DriveExactWrongFalsely : Prop := driveExactRow.holds Try.pinned (OpenSpec.ofChange driveExactWrong)

/-- 'pagecachelaw20.DriveSmall': WHATEVER THE INPUT: true; the input reads as it did. -/
def driveSmallSpec : ChangeSpec := { name := "driveSmall", fn := fun _ => fun
  | [d1, d2, d3, d4, d5, d6] => { results := [.lit (.bool true)], args := [d1, d2, d3, d4, d5, d6] }
  | _ => none }
def driveSmallRow : OpenClaim := { program := "yteidhjdkaaddgaa", sum := "44b595d06cc023aba25ffb8e1b8de55119964eeb17e50f7fe3a2d31afc13bc30", func := "pagecache/pagecachelaw20.DriveSmall", spec := "driveSmall", inPlace := ["internal/abi.NoEscape"], unfollowed := true, recurses := true, apart := false }
def DriveSmallSaid : Prop := driveSmallRow.holds Try.pinned (OpenSpec.ofChange driveSmallSpec)

/-- ITS FALSE NEIGHBOUR: 'it returns false'. Refute it at one input. -/
def driveSmallWrong : ChangeSpec := { name := "driveSmall", fn := fun _ => fun
  | [d1, d2, d3, d4, d5, d6] => { results := [.lit (.bool false)], args := [d1, d2, d3, d4, d5, d6] }
  | _ => none }
def DriveSmallWrongFalsely : Prop := driveSmallRow.holds Try.pinned (OpenSpec.ofChange driveSmallWrong)

/-- 'pagecachelaw20.DriveReads': WHATEVER THE INPUT: true; the input reads as it did. -/
def driveReadsSpec : ChangeSpec := { name := "driveReads", fn := fun _ => fun
  | [d1, d2] => { results := [.lit (.bool true)], args := [d1, d2] }
  | _ => none }
def driveReadsRow : OpenClaim := { program := "yteidhjdkaaddgaa", sum := "44b595d06cc023aba25ffb8e1b8de55119964eeb17e50f7fe3a2d31afc13bc30", func := "pagecache/pagecachelaw20.DriveReads", spec := "driveReads", inPlace := ["internal/abi.NoEscape"], unfollowed := true, recurses := true, apart := false }
def DriveReadsSaid : Prop := driveReadsRow.holds Try.pinned (OpenSpec.ofChange driveReadsSpec)

/-- ITS FALSE NEIGHBOUR: 'it returns false'. Refute it at one input. -/
def driveReadsWrong : ChangeSpec := { name := "driveReads", fn := fun _ => fun
  | [d1, d2] => { results := [.lit (.bool false)], args := [d1, d2] }
  | _ => none }
def DriveReadsWrongFalsely : Prop := driveReadsRow.holds Try.pinned (OpenSpec.ofChange driveReadsWrong)

/-- 'pagecachelaw20.DriveFlushes': WHATEVER THE INPUT: true; the input reads as it did. -/
def driveFlushesSpec : ChangeSpec := { name := "driveFlushes", fn := fun _ => fun
  | [d1, d2] => { results := [.lit (.bool true)], args := [d1, d2] }
  | _ => none }
def driveFlushesRow : OpenClaim := { program := "yteidhjdkaaddgaa", sum := "44b595d06cc023aba25ffb8e1b8de55119964eeb17e50f7fe3a2d31afc13bc30", func := "pagecache/pagecachelaw20.DriveFlushes", spec := "driveFlushes", inPlace := ["internal/abi.NoEscape"], unfollowed := true, recurses := true, apart := false }
def DriveFlushesSaid : Prop := driveFlushesRow.holds Try.pinned (OpenSpec.ofChange driveFlushesSpec)

/-- ITS FALSE NEIGHBOUR: 'it returns false'. Refute it at one input. -/
def driveFlushesWrong : ChangeSpec := { name := "driveFlushes", fn := fun _ => fun
  | [d1, d2] => { results := [.lit (.bool false)], args := [d1, d2] }
  | _ => none }
def DriveFlushesWrongFalsely : Prop := driveFlushesRow.holds Try.pinned (OpenSpec.ofChange driveFlushesWrong)

/- THE SECOND FORM. 'bulk': how many values and letters a reading holds, each counted each time it is reached (what is shared counts as often as it is met; a slice's spare places count too). A statement '..UptoSaid' is the law's where the arguments, and the package variables that the reading takes, are together of bulk at most 1048576: NARROWER than '..Said'. Prove '..Said' where nothing that the law and all that it calls make is longer than what came in: it says more and counts as full. Else prove '..UptoSaid'. A law counts once. -/
mutual
def uptoBulk {H : Type} : DataW H → Nat
  | .lit (.string bytes) => bytes.length + 1
  | .lit _ => 1
  | .nil => 1
  | .ptr d => uptoBulk d + 1
  | .slice elems spare => uptoBulkAll elems + uptoBulkAll spare + 1
  | .agg parts => uptoBulkAll parts + 1
  | .iface _ d => uptoBulk d + 1
  | .map entries => uptoBulkEntries entries + 1
  | .held _ => 1
def uptoBulkAll {H : Type} : List (DataW H) → Nat
  | [] => 0
  | d :: r => uptoBulk d + uptoBulkAll r
def uptoBulkEntries {H : Type} : List (Lit × DataW H) → Nat
  | [] => 0
  | x :: r => uptoBulkEntry x + uptoBulkEntries r
def uptoBulkEntry {H : Type} : Lit × DataW H → Nat
  | (.string bytes, d) => bytes.length + uptoBulk d + 1
  | (_, d) => uptoBulk d + 1
 end
def uptoSmall : (H : Type) → List (DataW H) → Bool := fun _ ds => decide (uptoBulkAll ds ≤ 1048576)
def OpenSpec.upto (s : _root_.Go.ChangeSpec) : _root_.Go.OpenSpec := { _root_.Go.OpenSpec.ofChange s with cond := some uptoSmall }

/-- 'pagecachelaw20.DriveThrough', WHERE WHAT IT READS IS OF BULK AT MOST 1048576: true; the input reads as it did. -/
def driveThroughUptoRow : OpenClaim := { program := "yteidhjdkaaddgaa", sum := "44b595d06cc023aba25ffb8e1b8de55119964eeb17e50f7fe3a2d31afc13bc30", func := "pagecache/pagecachelaw20.DriveThrough", spec := "driveThrough", unfollowed := true, recurses := true, apart := false, narrowed := true }
def DriveThroughUptoSaid : Prop := driveThroughUptoRow.holds Try.pinned (OpenSpec.upto driveThroughSpec)

/-- 'pagecachelaw20.DriveVersions', WHERE WHAT IT READS IS OF BULK AT MOST 1048576: true; the input reads as it did. -/
def driveVersionsUptoRow : OpenClaim := { program := "yteidhjdkaaddgaa", sum := "44b595d06cc023aba25ffb8e1b8de55119964eeb17e50f7fe3a2d31afc13bc30", func := "pagecache/pagecachelaw20.DriveVersions", spec := "driveVersions", unfollowed := true, recurses := true, apart := false, narrowed := true }
def DriveVersionsUptoSaid : Prop := driveVersionsUptoRow.holds Try.pinned (OpenSpec.upto driveVersionsSpec)

/-- 'pagecachelaw20.DriveRoom', WHERE WHAT IT READS IS OF BULK AT MOST 1048576: true; the input reads as it did. -/
def driveRoomUptoRow : OpenClaim := { program := "yteidhjdkaaddgaa", sum := "44b595d06cc023aba25ffb8e1b8de55119964eeb17e50f7fe3a2d31afc13bc30", func := "pagecache/pagecachelaw20.DriveRoom", spec := "driveRoom", inPlace := ["internal/abi.NoEscape"], unfollowed := true, recurses := true, apart := false, narrowed := true }
def DriveRoomUptoSaid : Prop := driveRoomUptoRow.holds Try.pinned (OpenSpec.upto driveRoomSpec)

/-- 'pagecachelaw20.DriveCommutes', WHERE WHAT IT READS IS OF BULK AT MOST 1048576: true; the input reads as it did. -/
def driveCommutesUptoRow : OpenClaim := { program := "yteidhjdkaaddgaa", sum := "44b595d06cc023aba25ffb8e1b8de55119964eeb17e50f7fe3a2d31afc13bc30", func := "pagecache/pagecachelaw20.DriveCommutes", spec := "driveCommutes", inPlace := ["internal/abi.NoEscape"], unfollowed := true, recurses := true, apart := false, narrowed := true }
def DriveCommutesUptoSaid : Prop := driveCommutesUptoRow.holds Try.pinned (OpenSpec.upto driveCommutesSpec)

/-- 'pagecachelaw20.DriveExact', WHERE WHAT IT READS IS OF BULK AT MOST 1048576: true; the input reads as it did. -/
def driveExactUptoRow : OpenClaim := { program := "yteidhjdkaaddgaa", sum := "44b595d06cc023aba25ffb8e1b8de55119964eeb17e50f7fe3a2d31afc13bc30", func := "pagecache/pagecachelaw20.DriveExact", spec := "driveExact", inPlace := ["internal/abi.NoEscape"], unfollowed := true, recurses := true, apart := false, narrowed := true }
def DriveExactUptoSaid : Prop := driveExactUptoRow.holds Try.pinned (OpenSpec.upto driveExactSpec)

/-- 'pagecachelaw20.DriveSmall', WHERE WHAT IT READS IS OF BULK AT MOST 1048576: true; the input reads as it did. -/
def driveSmallUptoRow : OpenClaim := { program := "yteidhjdkaaddgaa", sum := "44b595d06cc023aba25ffb8e1b8de55119964eeb17e50f7fe3a2d31afc13bc30", func := "pagecache/pagecachelaw20.DriveSmall", spec := "driveSmall", inPlace := ["internal/abi.NoEscape"], unfollowed := true, recurses := true, apart := false, narrowed := true }
def DriveSmallUptoSaid : Prop := driveSmallUptoRow.holds Try.pinned (OpenSpec.upto driveSmallSpec)

/-- 'pagecachelaw20.DriveReads', WHERE WHAT IT READS IS OF BULK AT MOST 1048576: true; the input reads as it did. -/
def driveReadsUptoRow : OpenClaim := { program := "yteidhjdkaaddgaa", sum := "44b595d06cc023aba25ffb8e1b8de55119964eeb17e50f7fe3a2d31afc13bc30", func := "pagecache/pagecachelaw20.DriveReads", spec := "driveReads", inPlace := ["internal/abi.NoEscape"], unfollowed := true, recurses := true, apart := false, narrowed := true }
def DriveReadsUptoSaid : Prop := driveReadsUptoRow.holds Try.pinned (OpenSpec.upto driveReadsSpec)

/-- 'pagecachelaw20.DriveFlushes', WHERE WHAT IT READS IS OF BULK AT MOST 1048576: true; the input reads as it did. -/
def driveFlushesUptoRow : OpenClaim := { program := "yteidhjdkaaddgaa", sum := "44b595d06cc023aba25ffb8e1b8de55119964eeb17e50f7fe3a2d31afc13bc30", func := "pagecache/pagecachelaw20.DriveFlushes", spec := "driveFlushes", inPlace := ["internal/abi.NoEscape"], unfollowed := true, recurses := true, apart := false, narrowed := true }
def DriveFlushesUptoSaid : Prop := driveFlushesUptoRow.holds Try.pinned (OpenSpec.upto driveFlushesSpec)

end Rows
end Go.Proofs.Yteidhjdkaaddgaa
