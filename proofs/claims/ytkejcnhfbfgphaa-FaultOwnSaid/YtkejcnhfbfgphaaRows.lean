/-
  No cell of these rows narrows 'for every input' (looked for: loops, veiled, ifaces, maps, wideKeys, modest, calm, conditions, laid).
  DERIVED. THE GIVEN ROWS OF THIS SEAT. 8 by the template 'for every input the law returns true; each argument reads behind the call as it read before'; 0 by the template 'total and deterministic' (their statements: YtkejcnhfbfgphaaTotals.lean).
  GIVEN WITH THE SEED: the statements are not yours to turn. If you find one false, say at which input.
  Laid BY PROGRAM, IN A SANDBOX (cutbox-rows.mjs): the forced cells as the released guide's own fill.sh prints them over the translation e592752a8c7f4a29… (all of the seat's roots in one cut). By AI agents, Wed Nov 11 2026. No macro, syntax, notation, axiom, sorry.
-/
import Derived.Test.YtkejcnhfbfgphaaChecked
import GoSem.Claim
import GoSem.ClaimJoined
import GoSem.ClaimMapViews
import Derived.JoinedTies
import Derived.KernelRfl
namespace Go.Proofs.Ytkejcnhfbfgphaa
/- THE CELL 'sum', in the pinned program and in every row, IS THE sha256 OF THE DUMP (.gsa) THAT YtkejcnhfbfgphaaProg.lean LOADS. Nothing in Lean hashes anything: it is a label: what it is worth is what the hold of that sum in a sandbox is worth. -/
noncomputable def Try.pinned : Pinned := { name := "ytkejcnhfbfgphaa", sum := "e592752a8c7f4a296a7cc887573c390d52875cb98f9ab8f6f276ea7d576dc764", checked := Try.checked }
namespace Rows
def none {H : Type} : Left H := { results := [], args := [] }

/-- 'pagecachelaw21.FaultSteps': WHATEVER THE INPUT: true; the input reads as it did. -/
def faultStepsSpec : ChangeSpec := { name := "faultSteps", fn := fun _ => fun
  | [d1, d2] => { results := [.lit (.bool true)], args := [d1, d2] }
  | _ => none }
def faultStepsRow : OpenClaim := { program := "ytkejcnhfbfgphaa", sum := "e592752a8c7f4a296a7cc887573c390d52875cb98f9ab8f6f276ea7d576dc764", func := "pagecache/pagecachelaw21.FaultSteps", spec := "faultSteps", unfollowed := true, recurses := true, apart := false }
def FaultStepsSaid : Prop := faultStepsRow.holds Try.pinned (OpenSpec.ofChange faultStepsSpec)

/-- ITS FALSE NEIGHBOUR: 'it returns false'. Refute it at one input. -/
def faultStepsWrong : ChangeSpec := { name := "faultSteps", fn := fun _ => fun
  | [d1, d2] => { results := [.lit (.bool false)], args := [d1, d2] }
  | _ => none }
def FaultStepsWrongFalsely : Prop := faultStepsRow.holds Try.pinned (OpenSpec.ofChange faultStepsWrong)

/-- 'pagecachelaw21.FaultCounts': WHATEVER THE INPUT: true; the input reads as it did. -/
def faultCountsSpec : ChangeSpec := { name := "faultCounts", fn := fun _ => fun
  | [d1, d2] => { results := [.lit (.bool true)], args := [d1, d2] }
  | _ => none }
def faultCountsRow : OpenClaim := { program := "ytkejcnhfbfgphaa", sum := "e592752a8c7f4a296a7cc887573c390d52875cb98f9ab8f6f276ea7d576dc764", func := "pagecache/pagecachelaw21.FaultCounts", spec := "faultCounts", unfollowed := true, recurses := true, apart := false }
def FaultCountsSaid : Prop := faultCountsRow.holds Try.pinned (OpenSpec.ofChange faultCountsSpec)

/-- ITS FALSE NEIGHBOUR: 'it returns false'. Refute it at one input. -/
def faultCountsWrong : ChangeSpec := { name := "faultCounts", fn := fun _ => fun
  | [d1, d2] => { results := [.lit (.bool false)], args := [d1, d2] }
  | _ => none }
def FaultCountsWrongFalsely : Prop := faultCountsRow.holds Try.pinned (OpenSpec.ofChange faultCountsWrong)

/-- 'pagecachelaw21.FaultQuiet': WHATEVER THE INPUT: true; the input reads as it did. -/
def faultQuietSpec : ChangeSpec := { name := "faultQuiet", fn := fun _ => fun
  | [d1, d2, d3, d4] => { results := [.lit (.bool true)], args := [d1, d2, d3, d4] }
  | _ => none }
def faultQuietRow : OpenClaim := { program := "ytkejcnhfbfgphaa", sum := "e592752a8c7f4a296a7cc887573c390d52875cb98f9ab8f6f276ea7d576dc764", func := "pagecache/pagecachelaw21.FaultQuiet", spec := "faultQuiet", unfollowed := true, recurses := true, apart := false }
def FaultQuietSaid : Prop := faultQuietRow.holds Try.pinned (OpenSpec.ofChange faultQuietSpec)

/-- ITS FALSE NEIGHBOUR: 'it returns false'. Refute it at one input. -/
def faultQuietWrong : ChangeSpec := { name := "faultQuiet", fn := fun _ => fun
  | [d1, d2, d3, d4] => { results := [.lit (.bool false)], args := [d1, d2, d3, d4] }
  | _ => none }
def FaultQuietWrongFalsely : Prop := faultQuietRow.holds Try.pinned (OpenSpec.ofChange faultQuietWrong)

/-- 'pagecachelaw21.FaultExact': WHATEVER THE INPUT: true; the input reads as it did. -/
def faultExactSpec : ChangeSpec := { name := "faultExact", fn := fun _ => fun
  | [d1, d2, d3, d4, d5, d6, d7] => { results := [.lit (.bool true)], args := [d1, d2, d3, d4, d5, d6, d7] }
  | _ => none }
def faultExactRow : OpenClaim := { program := "ytkejcnhfbfgphaa", sum := "e592752a8c7f4a296a7cc887573c390d52875cb98f9ab8f6f276ea7d576dc764", func := "pagecache/pagecachelaw21.FaultExact", spec := "faultExact", inPlace := ["internal/abi.NoEscape"], unfollowed := true, recurses := true, apart := false }
def FaultExactSaid : Prop := faultExactRow.holds Try.pinned (OpenSpec.ofChange faultExactSpec)

/-- ITS FALSE NEIGHBOUR: 'it returns false'. Refute it at one input. -/
def faultExactWrong : ChangeSpec := { name := "faultExact", fn := fun _ => fun
  | [d1, d2, d3, d4, d5, d6, d7] => { results := [.lit (.bool false)], args := [d1, d2, d3, d4, d5, d6, d7] }
  | _ => none }
def FaultExactWrongFalsely : Prop := faultExactRow.holds Try.pinned (OpenSpec.ofChange faultExactWrong)

/-- 'pagecachelaw21.FaultRuns': WHATEVER THE INPUT: true; the input reads as it did. -/
def faultRunsSpec : ChangeSpec := { name := "faultRuns", fn := fun _ => fun
  | [d1, d2] => { results := [.lit (.bool true)], args := [d1, d2] }
  | _ => none }
def faultRunsRow : OpenClaim := { program := "ytkejcnhfbfgphaa", sum := "e592752a8c7f4a296a7cc887573c390d52875cb98f9ab8f6f276ea7d576dc764", func := "pagecache/pagecachelaw21.FaultRuns", spec := "faultRuns", inPlace := ["internal/abi.NoEscape"], unfollowed := true, recurses := true, apart := false }
def FaultRunsSaid : Prop := faultRunsRow.holds Try.pinned (OpenSpec.ofChange faultRunsSpec)

/-- ITS FALSE NEIGHBOUR: 'it returns false'. Refute it at one input. -/
def faultRunsWrong : ChangeSpec := { name := "faultRuns", fn := fun _ => fun
  | [d1, d2] => { results := [.lit (.bool false)], args := [d1, d2] }
  | _ => none }
def FaultRunsWrongFalsely : Prop := faultRunsRow.holds Try.pinned (OpenSpec.ofChange faultRunsWrong)

/-- 'pagecachelaw21.FaultOwn': WHATEVER THE INPUT: true; the input reads as it did. -/
def faultOwnSpec : ChangeSpec := { name := "faultOwn", fn := fun _ => fun
  | [d1, d2] => { results := [.lit (.bool true)], args := [d1, d2] }
  | _ => none }
def faultOwnRow : OpenClaim := { program := "ytkejcnhfbfgphaa", sum := "e592752a8c7f4a296a7cc887573c390d52875cb98f9ab8f6f276ea7d576dc764", func := "pagecache/pagecachelaw21.FaultOwn", spec := "faultOwn", inPlace := ["internal/abi.NoEscape"], unfollowed := true, recurses := true, apart := false }
def FaultOwnSaid : Prop := faultOwnRow.holds Try.pinned (OpenSpec.ofChange faultOwnSpec)

/-- ITS FALSE NEIGHBOUR: 'it returns false'. Refute it at one input. -/
def faultOwnWrong : ChangeSpec := { name := "faultOwn", fn := fun _ => fun
  | [d1, d2] => { results := [.lit (.bool false)], args := [d1, d2] }
  | _ => none }
def FaultOwnWrongFalsely : Prop := faultOwnRow.holds Try.pinned (OpenSpec.ofChange faultOwnWrong)

/-- 'pagecachelaw21.FaultRepairs': WHATEVER THE INPUT: true; the input reads as it did. -/
def faultRepairsSpec : ChangeSpec := { name := "faultRepairs", fn := fun _ => fun
  | [d1, d2] => { results := [.lit (.bool true)], args := [d1, d2] }
  | _ => none }
def faultRepairsRow : OpenClaim := { program := "ytkejcnhfbfgphaa", sum := "e592752a8c7f4a296a7cc887573c390d52875cb98f9ab8f6f276ea7d576dc764", func := "pagecache/pagecachelaw21.FaultRepairs", spec := "faultRepairs", inPlace := ["internal/abi.NoEscape"], unfollowed := true, recurses := true, apart := false }
def FaultRepairsSaid : Prop := faultRepairsRow.holds Try.pinned (OpenSpec.ofChange faultRepairsSpec)

/-- ITS FALSE NEIGHBOUR: 'it returns false'. Refute it at one input. -/
def faultRepairsWrong : ChangeSpec := { name := "faultRepairs", fn := fun _ => fun
  | [d1, d2] => { results := [.lit (.bool false)], args := [d1, d2] }
  | _ => none }
def FaultRepairsWrongFalsely : Prop := faultRepairsRow.holds Try.pinned (OpenSpec.ofChange faultRepairsWrong)

/-- 'pagecachelaw21.FaultTwice': WHATEVER THE INPUT: true; the input reads as it did. -/
def faultTwiceSpec : ChangeSpec := { name := "faultTwice", fn := fun _ => fun
  | [d1, d2] => { results := [.lit (.bool true)], args := [d1, d2] }
  | _ => none }
def faultTwiceRow : OpenClaim := { program := "ytkejcnhfbfgphaa", sum := "e592752a8c7f4a296a7cc887573c390d52875cb98f9ab8f6f276ea7d576dc764", func := "pagecache/pagecachelaw21.FaultTwice", spec := "faultTwice", inPlace := ["internal/abi.NoEscape"], unfollowed := true, recurses := true, apart := false }
def FaultTwiceSaid : Prop := faultTwiceRow.holds Try.pinned (OpenSpec.ofChange faultTwiceSpec)

/-- ITS FALSE NEIGHBOUR: 'it returns false'. Refute it at one input. -/
def faultTwiceWrong : ChangeSpec := { name := "faultTwice", fn := fun _ => fun
  | [d1, d2] => { results := [.lit (.bool false)], args := [d1, d2] }
  | _ => none }
def FaultTwiceWrongFalsely : Prop := faultTwiceRow.holds Try.pinned (OpenSpec.ofChange faultTwiceWrong)

/- THE SECOND FORM. 'bulk': how many values and letters a reading holds, each counted each time it is reached (what is shared counts as often as it is met; a slice's spare places count too). A statement '..UptoSaid' is the law's where the arguments, and the package variables that the reading takes, are together of bulk at most 1048576: NARROWER than '..Said'. Prove '..Said' where nothing that the law and all that it calls make is longer than what came in: it says more and counts as full. Else prove '..UptoSaid'. A law counts once. -/
mutual
def uptoBulk {H : Type} : DataW H → Nat
  | .lit (.string bytes) => bytes.length + 1
  | .lit _ => 1
  | .nil => 1
  | .ptr d => uptoBulk d + 1
  | .slice elems spare => uptoBulkAll elems + uptoBulkAll spare + 1
  | .agg parts => uptoBulkAll parts + 1
  | .iface _ d => uptoBulk d + 1
  | .map entries => uptoBulkEntries entries + 1
  | .held _ => 1
def uptoBulkAll {H : Type} : List (DataW H) → Nat
  | [] => 0
  | d :: r => uptoBulk d + uptoBulkAll r
def uptoBulkEntries {H : Type} : List (Lit × DataW H) → Nat
  | [] => 0
  | x :: r => uptoBulkEntry x + uptoBulkEntries r
def uptoBulkEntry {H : Type} : Lit × DataW H → Nat
  | (.string bytes, d) => bytes.length + uptoBulk d + 1
  | (_, d) => uptoBulk d + 1
 end
def uptoSmall : (H : Type) → List (DataW H) → Bool := fun _ ds => decide (uptoBulkAll ds ≤ 1048576)
def OpenSpec.upto (s : _root_.Go.ChangeSpec) : _root_.Go.OpenSpec := { _root_.Go.OpenSpec.ofChange s with cond := some uptoSmall }

/-- 'pagecachelaw21.FaultSteps', WHERE WHAT IT READS IS OF BULK AT MOST 1048576: true; the input reads as it did. -/
def faultStepsUptoRow : OpenClaim := { program := "ytkejcnhfbfgphaa", sum := "e592752a8c7f4a296a7cc887573c390d52875cb98f9ab8f6f276ea7d576dc764", func := "pagecache/pagecachelaw21.FaultSteps", spec := "faultSteps", unfollowed := true, recurses := true, apart := false, narrowed := true }
def FaultStepsUptoSaid : Prop := faultStepsUptoRow.holds Try.pinned (OpenSpec.upto faultStepsSpec)

/-- 'pagecachelaw21.FaultCounts', WHERE WHAT IT READS IS OF BULK AT MOST 1048576: true; the input reads as it did. -/
def faultCountsUptoRow : OpenClaim := { program := "ytkejcnhfbfgphaa", sum := "e592752a8c7f4a296a7cc887573c390d52875cb98f9ab8f6f276ea7d576dc764", func := "pagecache/pagecachelaw21.FaultCounts", spec := "faultCounts", unfollowed := true, recurses := true, apart := false, narrowed := true }
def FaultCountsUptoSaid : Prop := faultCountsUptoRow.holds Try.pinned (OpenSpec.upto faultCountsSpec)

/-- 'pagecachelaw21.FaultQuiet', WHERE WHAT IT READS IS OF BULK AT MOST 1048576: true; the input reads as it did. -/
def faultQuietUptoRow : OpenClaim := { program := "ytkejcnhfbfgphaa", sum := "e592752a8c7f4a296a7cc887573c390d52875cb98f9ab8f6f276ea7d576dc764", func := "pagecache/pagecachelaw21.FaultQuiet", spec := "faultQuiet", unfollowed := true, recurses := true, apart := false, narrowed := true }
def FaultQuietUptoSaid : Prop := faultQuietUptoRow.holds Try.pinned (OpenSpec.upto faultQuietSpec)

/-- 'pagecachelaw21.FaultExact', WHERE WHAT IT READS IS OF BULK AT MOST 1048576: true; the input reads as it did. -/
def faultExactUptoRow : OpenClaim := { program := "ytkejcnhfbfgphaa", sum := "e592752a8c7f4a296a7cc887573c390d52875cb98f9ab8f6f276ea7d576dc764", func := "pagecache/pagecachelaw21.FaultExact", spec := "faultExact", inPlace := ["internal/abi.NoEscape"], unfollowed := true, recurses := true, apart := false, narrowed := true }
def FaultExactUptoSaid : Prop := faultExactUptoRow.holds Try.pinned (OpenSpec.upto faultExactSpec)

/-- 'pagecachelaw21.FaultRuns', WHERE WHAT IT READS IS OF BULK AT MOST 1048576: true; the input reads as it did. -/
def faultRunsUptoRow : OpenClaim := { program := "ytkejcnhfbfgphaa", sum := "e592752a8c7f4a296a7cc887573c390d52875cb98f9ab8f6f276ea7d576dc764", func := "pagecache/pagecachelaw21.FaultRuns", spec := "faultRuns", inPlace := ["internal/abi.NoEscape"], unfollowed := true, recurses := true, apart := false, narrowed := true }
def FaultRunsUptoSaid : Prop := faultRunsUptoRow.holds Try.pinned (OpenSpec.upto faultRunsSpec)

/-- 'pagecachelaw21.FaultOwn', WHERE WHAT IT READS IS OF BULK AT MOST 1048576: true; the input reads as it did. -/
def faultOwnUptoRow : OpenClaim := { program := "ytkejcnhfbfgphaa", sum := "e592752a8c7f4a296a7cc887573c390d52875cb98f9ab8f6f276ea7d576dc764", func := "pagecache/pagecachelaw21.FaultOwn", spec := "faultOwn", inPlace := ["internal/abi.NoEscape"], unfollowed := true, recurses := true, apart := false, narrowed := true }
def FaultOwnUptoSaid : Prop := faultOwnUptoRow.holds Try.pinned (OpenSpec.upto faultOwnSpec)

/-- 'pagecachelaw21.FaultRepairs', WHERE WHAT IT READS IS OF BULK AT MOST 1048576: true; the input reads as it did. -/
def faultRepairsUptoRow : OpenClaim := { program := "ytkejcnhfbfgphaa", sum := "e592752a8c7f4a296a7cc887573c390d52875cb98f9ab8f6f276ea7d576dc764", func := "pagecache/pagecachelaw21.FaultRepairs", spec := "faultRepairs", inPlace := ["internal/abi.NoEscape"], unfollowed := true, recurses := true, apart := false, narrowed := true }
def FaultRepairsUptoSaid : Prop := faultRepairsUptoRow.holds Try.pinned (OpenSpec.upto faultRepairsSpec)

/-- 'pagecachelaw21.FaultTwice', WHERE WHAT IT READS IS OF BULK AT MOST 1048576: true; the input reads as it did. -/
def faultTwiceUptoRow : OpenClaim := { program := "ytkejcnhfbfgphaa", sum := "e592752a8c7f4a296a7cc887573c390d52875cb98f9ab8f6f276ea7d576dc764", func := "pagecache/pagecachelaw21.FaultTwice", spec := "faultTwice", inPlace := ["internal/abi.NoEscape"], unfollowed := true, recurses := true, apart := false, narrowed := true }
def FaultTwiceUptoSaid : Prop := faultTwiceUptoRow.holds Try.pinned (OpenSpec.upto faultTwiceSpec)

end Rows
end Go.Proofs.Ytkejcnhfbfgphaa
