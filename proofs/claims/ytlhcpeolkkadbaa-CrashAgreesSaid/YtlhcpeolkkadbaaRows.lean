/-
  No cell of these rows narrows 'for every input' (looked for: loops, veiled, ifaces, maps, wideKeys, modest, calm, conditions, laid).
  DERIVED. THE GIVEN ROWS OF THIS SEAT. 8 by the template 'for every input the law returns true; each argument reads behind the call as it read before'; 0 by the template 'total and deterministic' (their statements: YtlhcpeolkkadbaaTotals.lean).
  GIVEN WITH THE SEED: the statements are not yours to turn. If you find one false, say at which input.
  Laid BY PROGRAM, IN A SANDBOX (cutbox-rows.mjs): the forced cells as the released guide's own fill.sh prints them over the translation 852ab81207fc1962… (all of the seat's roots in one cut). By AI agents, Wed Nov 11 2026. No macro, syntax, notation, axiom, sorry.
-/
import Derived.Test.YtlhcpeolkkadbaaChecked
import GoSem.Claim
import GoSem.ClaimJoined
import GoSem.ClaimMapViews
import Derived.JoinedTies
import Derived.KernelRfl
namespace Go.Proofs.Ytlhcpeolkkadbaa
/- THE CELL 'sum', in the pinned program and in every row, IS THE sha256 OF THE DUMP (.gsa) THAT YtlhcpeolkkadbaaProg.lean LOADS. Nothing in Lean hashes anything: it is a label: what it is worth is what the hold of that sum in a sandbox is worth. -/
noncomputable def Try.pinned : Pinned := { name := "ytlhcpeolkkadbaa", sum := "852ab81207fc196277a2712a12d792b5e7105c99d02825d8f99ebf5d28131d9e", checked := Try.checked }
namespace Rows
def none {H : Type} : Left H := { results := [], args := [] }

/-- 'pagecachelaw36.CrashExact': WHATEVER THE INPUT: true; the input reads as it did. -/
def crashExactSpec : ChangeSpec := { name := "crashExact", fn := fun _ => fun
  | [d1, d2, d3, d4] => { results := [.lit (.bool true)], args := [d1, d2, d3, d4] }
  | _ => none }
def crashExactRow : OpenClaim := { program := "ytlhcpeolkkadbaa", sum := "852ab81207fc196277a2712a12d792b5e7105c99d02825d8f99ebf5d28131d9e", func := "pagecache/pagecachelaw36.CrashExact", spec := "crashExact", inPlace := ["internal/abi.NoEscape"], unfollowed := true, recurses := true, apart := false }
def CrashExactSaid : Prop := crashExactRow.holds Try.pinned (OpenSpec.ofChange crashExactSpec)

/-- ITS FALSE NEIGHBOUR: 'it returns false'. Refute it at one input. -/
def crashExactWrong : ChangeSpec := { name := "crashExact", fn := fun _ => fun
  | [d1, d2, d3, d4] => { results := [.lit (.bool false)], args := [d1, d2, d3, d4] }
  | _ => none }
def CrashExactWrongFalsely : Prop := crashExactRow.holds Try.pinned (OpenSpec.ofChange crashExactWrong)

/-- 'pagecachelaw36.CrashSmall': WHATEVER THE INPUT: true; the input reads as it did. -/
def crashSmallSpec : ChangeSpec := { name := "crashSmall", fn := fun _ => fun
  | [d1, d2, d3, d4, d5] => { results := [.lit (.bool true)], args := [d1, d2, d3, d4, d5] }
  | _ => none }
def crashSmallRow : OpenClaim := { program := "ytlhcpeolkkadbaa", sum := "852ab81207fc196277a2712a12d792b5e7105c99d02825d8f99ebf5d28131d9e", func := "pagecache/pagecachelaw36.CrashSmall", spec := "crashSmall", inPlace := ["internal/abi.NoEscape"], unfollowed := true, recurses := true, apart := false }
def CrashSmallSaid : Prop := crashSmallRow.holds Try.pinned (OpenSpec.ofChange crashSmallSpec)

/-- ITS FALSE NEIGHBOUR: 'it returns false'. Refute it at one input. -/
def crashSmallWrong : ChangeSpec := { name := "crashSmall", fn := fun _ => fun
  | [d1, d2, d3, d4, d5] => { results := [.lit (.bool false)], args := [d1, d2, d3, d4, d5] }
  | _ => none }
def CrashSmallWrongFalsely : Prop := crashSmallRow.holds Try.pinned (OpenSpec.ofChange crashSmallWrong)

/-- 'pagecachelaw36.CrashAgrees': WHATEVER THE INPUT: true; the input reads as it did. -/
def crashAgreesSpec : ChangeSpec := { name := "crashAgrees", fn := fun _ => fun
  | [d1, d2, d3] => { results := [.lit (.bool true)], args := [d1, d2, d3] }
  | _ => none }
def crashAgreesRow : OpenClaim := { program := "ytlhcpeolkkadbaa", sum := "852ab81207fc196277a2712a12d792b5e7105c99d02825d8f99ebf5d28131d9e", func := "pagecache/pagecachelaw36.CrashAgrees", spec := "crashAgrees", inPlace := ["internal/abi.NoEscape"], unfollowed := true, recurses := true, apart := false }
def CrashAgreesSaid : Prop := crashAgreesRow.holds Try.pinned (OpenSpec.ofChange crashAgreesSpec)

/-- ITS FALSE NEIGHBOUR: 'it returns false'. Refute it at one input. -/
def crashAgreesWrong : ChangeSpec := { name := "crashAgrees", fn := fun _ => fun
  | [d1, d2, d3] => { results := [.lit (.bool false)], args := [d1, d2, d3] }
  | _ => none }
def CrashAgreesWrongFalsely : Prop := crashAgreesRow.holds Try.pinned (OpenSpec.ofChange crashAgreesWrong)

/-- 'pagecachelaw36.CrashOutside': WHATEVER THE INPUT: true; the input reads as it did. -/
def crashOutsideSpec : ChangeSpec := { name := "crashOutside", fn := fun _ => fun
  | [d1, d2, d3, d4] => { results := [.lit (.bool true)], args := [d1, d2, d3, d4] }
  | _ => none }
def crashOutsideRow : OpenClaim := { program := "ytlhcpeolkkadbaa", sum := "852ab81207fc196277a2712a12d792b5e7105c99d02825d8f99ebf5d28131d9e", func := "pagecache/pagecachelaw36.CrashOutside", spec := "crashOutside", inPlace := ["internal/abi.NoEscape"], unfollowed := true, recurses := true, apart := false }
def CrashOutsideSaid : Prop := crashOutsideRow.holds Try.pinned (OpenSpec.ofChange crashOutsideSpec)

/-- ITS FALSE NEIGHBOUR: 'it returns false'. Refute it at one input. -/
def crashOutsideWrong : ChangeSpec := { name := "crashOutside", fn := fun _ => fun
  | [d1, d2, d3, d4] => { results := [.lit (.bool false)], args := [d1, d2, d3, d4] }
  | _ => none }
def CrashOutsideWrongFalsely : Prop := crashOutsideRow.holds Try.pinned (OpenSpec.ofChange crashOutsideWrong)

/-- 'pagecachelaw36.CrashFlushed': WHATEVER THE INPUT: true; the input reads as it did. -/
def crashFlushedSpec : ChangeSpec := { name := "crashFlushed", fn := fun _ => fun
  | [d1, d2, d3, d4] => { results := [.lit (.bool true)], args := [d1, d2, d3, d4] }
  | _ => none }
def crashFlushedRow : OpenClaim := { program := "ytlhcpeolkkadbaa", sum := "852ab81207fc196277a2712a12d792b5e7105c99d02825d8f99ebf5d28131d9e", func := "pagecache/pagecachelaw36.CrashFlushed", spec := "crashFlushed", inPlace := ["internal/abi.NoEscape"], unfollowed := true, recurses := true, apart := false }
def CrashFlushedSaid : Prop := crashFlushedRow.holds Try.pinned (OpenSpec.ofChange crashFlushedSpec)

/-- ITS FALSE NEIGHBOUR: 'it returns false'. Refute it at one input. -/
def crashFlushedWrong : ChangeSpec := { name := "crashFlushed", fn := fun _ => fun
  | [d1, d2, d3, d4] => { results := [.lit (.bool false)], args := [d1, d2, d3, d4] }
  | _ => none }
def CrashFlushedWrongFalsely : Prop := crashFlushedRow.holds Try.pinned (OpenSpec.ofChange crashFlushedWrong)

/-- 'pagecachelaw36.CrashNewest': WHATEVER THE INPUT: true; the input reads as it did. -/
def crashNewestSpec : ChangeSpec := { name := "crashNewest", fn := fun _ => fun
  | [d] => { results := [.lit (.bool true)], args := [d] }
  | _ => none }
def crashNewestRow : OpenClaim := { program := "ytlhcpeolkkadbaa", sum := "852ab81207fc196277a2712a12d792b5e7105c99d02825d8f99ebf5d28131d9e", func := "pagecache/pagecachelaw36.CrashNewest", spec := "crashNewest", inPlace := ["internal/abi.NoEscape"], unfollowed := true, recurses := true, apart := false }
def CrashNewestSaid : Prop := crashNewestRow.holds Try.pinned (OpenSpec.ofChange crashNewestSpec)

/-- ITS FALSE NEIGHBOUR: 'it returns false'. Refute it at one input. -/
def crashNewestWrong : ChangeSpec := { name := "crashNewest", fn := fun _ => fun
  | [d] => { results := [.lit (.bool false)], args := [d] }
  | _ => none }
def CrashNewestWrongFalsely : Prop := crashNewestRow.holds Try.pinned (OpenSpec.ofChange crashNewestWrong)

/-- 'pagecachelaw36.CrashMore': WHATEVER THE INPUT: true; the input reads as it did. -/
def crashMoreSpec : ChangeSpec := { name := "crashMore", fn := fun _ => fun
  | [d1, d2, d3, d4, d5] => { results := [.lit (.bool true)], args := [d1, d2, d3, d4, d5] }
  | _ => none }
def crashMoreRow : OpenClaim := { program := "ytlhcpeolkkadbaa", sum := "852ab81207fc196277a2712a12d792b5e7105c99d02825d8f99ebf5d28131d9e", func := "pagecache/pagecachelaw36.CrashMore", spec := "crashMore", inPlace := ["internal/abi.NoEscape"], unfollowed := true, recurses := true, apart := false }
def CrashMoreSaid : Prop := crashMoreRow.holds Try.pinned (OpenSpec.ofChange crashMoreSpec)

/-- ITS FALSE NEIGHBOUR: 'it returns false'. Refute it at one input. -/
def crashMoreWrong : ChangeSpec := { name := "crashMore", fn := fun _ => fun
  | [d1, d2, d3, d4, d5] => { results := [.lit (.bool false)], args := [d1, d2, d3, d4, d5] }
  | _ => none }
def CrashMoreWrongFalsely : Prop := crashMoreRow.holds Try.pinned (OpenSpec.ofChange crashMoreWrong)

/-- 'pagecachelaw36.CrashFlying': WHATEVER THE INPUT: true; the input reads as it did. -/
def crashFlyingSpec : ChangeSpec := { name := "crashFlying", fn := fun _ => fun
  | [d1, d2, d3] => { results := [.lit (.bool true)], args := [d1, d2, d3] }
  | _ => none }
def crashFlyingRow : OpenClaim := { program := "ytlhcpeolkkadbaa", sum := "852ab81207fc196277a2712a12d792b5e7105c99d02825d8f99ebf5d28131d9e", func := "pagecache/pagecachelaw36.CrashFlying", spec := "crashFlying", inPlace := ["internal/abi.NoEscape"], unfollowed := true, recurses := true, apart := false }
def CrashFlyingSaid : Prop := crashFlyingRow.holds Try.pinned (OpenSpec.ofChange crashFlyingSpec)

/-- ITS FALSE NEIGHBOUR: 'it returns false'. Refute it at one input. -/
def crashFlyingWrong : ChangeSpec := { name := "crashFlying", fn := fun _ => fun
  | [d1, d2, d3] => { results := [.lit (.bool false)], args := [d1, d2, d3] }
  | _ => none }
def CrashFlyingWrongFalsely : Prop := crashFlyingRow.holds Try.pinned (OpenSpec.ofChange crashFlyingWrong)

/- THE SECOND FORM. 'bulk': how many values and letters a reading holds, each counted each time it is reached (what is shared counts as often as it is met; a slice's spare places count too). A statement '..UptoSaid' is the law's where the arguments, and the package variables that the reading takes, are together of bulk at most 1048576: NARROWER than '..Said'. Prove '..Said' where nothing that the law and all that it calls make is longer than what came in: it says more and counts as full. Else prove '..UptoSaid'. A law counts once. -/
mutual
def uptoBulk {H : Type} : DataW H → Nat
  | .lit (.string bytes) => bytes.length + 1
  | .lit _ => 1
  | .nil => 1
  | .ptr d => uptoBulk d + 1
  | .slice elems spare => uptoBulkAll elems + uptoBulkAll spare + 1
  | .agg parts => uptoBulkAll parts + 1
  | .iface _ d => uptoBulk d + 1
  | .map entries => uptoBulkEntries entries + 1
  | .held _ => 1
def uptoBulkAll {H : Type} : List (DataW H) → Nat
  | [] => 0
  | d :: r => uptoBulk d + uptoBulkAll r
def uptoBulkEntries {H : Type} : List (Lit × DataW H) → Nat
  | [] => 0
  | x :: r => uptoBulkEntry x + uptoBulkEntries r
def uptoBulkEntry {H : Type} : Lit × DataW H → Nat
  | (.string bytes, d) => bytes.length + uptoBulk d + 1
  | (_, d) => uptoBulk d + 1
 end
def uptoSmall : (H : Type) → List (DataW H) → Bool := fun _ ds => decide (uptoBulkAll ds ≤ 1048576)
def OpenSpec.upto (s : _root_.Go.ChangeSpec) : _root_.Go.OpenSpec := { _root_.Go.OpenSpec.ofChange s with cond := some uptoSmall }

/-- 'pagecachelaw36.CrashExact', WHERE WHAT IT READS IS OF BULK AT MOST 1048576: true; the input reads as it did. -/
def crashExactUptoRow : OpenClaim := { program := "ytlhcpeolkkadbaa", sum := "852ab81207fc196277a2712a12d792b5e7105c99d02825d8f99ebf5d28131d9e", func := "pagecache/pagecachelaw36.CrashExact", spec := "crashExact", inPlace := ["internal/abi.NoEscape"], unfollowed := true, recurses := true, apart := false, narrowed := true }
def CrashExactUptoSaid : Prop := crashExactUptoRow.holds Try.pinned (OpenSpec.upto crashExactSpec)

/-- 'pagecachelaw36.CrashSmall', WHERE WHAT IT READS IS OF BULK AT MOST 1048576: true; the input reads as it did. -/
def crashSmallUptoRow : OpenClaim := { program := "ytlhcpeolkkadbaa", sum := "852ab81207fc196277a2712a12d792b5e7105c99d02825d8f99ebf5d28131d9e", func := "pagecache/pagecachelaw36.CrashSmall", spec := "crashSmall", inPlace := ["internal/abi.NoEscape"], unfollowed := true, recurses := true, apart := false, narrowed := true }
def CrashSmallUptoSaid : Prop := crashSmallUptoRow.holds Try.pinned (OpenSpec.upto crashSmallSpec)

/-- 'pagecachelaw36.CrashAgrees', WHERE WHAT IT READS IS OF BULK AT MOST 1048576: true; the input reads as it did. -/
def crashAgreesUptoRow : OpenClaim := { program := "ytlhcpeolkkadbaa", sum := "852ab81207fc196277a2712a12d792b5e7105c99d02825d8f99ebf5d28131d9e", func := "pagecache/pagecachelaw36.CrashAgrees", spec := "crashAgrees", inPlace := ["internal/abi.NoEscape"], unfollowed := true, recurses := true, apart := false, narrowed := true }
def CrashAgreesUptoSaid : Prop := crashAgreesUptoRow.holds Try.pinned (OpenSpec.upto crashAgreesSpec)

/-- 'pagecachelaw36.CrashOutside', WHERE WHAT IT READS IS OF BULK AT MOST 1048576: true; the input reads as it did. -/
def crashOutsideUptoRow : OpenClaim := { program := "ytlhcpeolkkadbaa", sum := "852ab81207fc196277a2712a12d792b5e7105c99d02825d8f99ebf5d28131d9e", func := "pagecache/pagecachelaw36.CrashOutside", spec := "crashOutside", inPlace := ["internal/abi.NoEscape"], unfollowed := true, recurses := true, apart := false, narrowed := true }
def CrashOutsideUptoSaid : Prop := crashOutsideUptoRow.holds Try.pinned (OpenSpec.upto crashOutsideSpec)

/-- 'pagecachelaw36.CrashFlushed', WHERE WHAT IT READS IS OF BULK AT MOST 1048576: true; the input reads as it did. -/
def crashFlushedUptoRow : OpenClaim := { program := "ytlhcpeolkkadbaa", sum := "852ab81207fc196277a2712a12d792b5e7105c99d02825d8f99ebf5d28131d9e", func := "pagecache/pagecachelaw36.CrashFlushed", spec := "crashFlushed", inPlace := ["internal/abi.NoEscape"], unfollowed := true, recurses := true, apart := false, narrowed := true }
def CrashFlushedUptoSaid : Prop := crashFlushedUptoRow.holds Try.pinned (OpenSpec.upto crashFlushedSpec)

/-- 'pagecachelaw36.CrashNewest', WHERE WHAT IT READS IS OF BULK AT MOST 1048576: true; the input reads as it did. -/
def crashNewestUptoRow : OpenClaim := { program := "ytlhcpeolkkadbaa", sum := "852ab81207fc196277a2712a12d792b5e7105c99d02825d8f99ebf5d28131d9e", func := "pagecache/pagecachelaw36.CrashNewest", spec := "crashNewest", inPlace := ["internal/abi.NoEscape"], unfollowed := true, recurses := true, apart := false, narrowed := true }
def CrashNewestUptoSaid : Prop := crashNewestUptoRow.holds Try.pinned (OpenSpec.upto crashNewestSpec)

/-- 'pagecachelaw36.CrashMore', WHERE WHAT IT READS IS OF BULK AT MOST 1048576: true; the input reads as it did. -/
def crashMoreUptoRow : OpenClaim := { program := "ytlhcpeolkkadbaa", sum := "852ab81207fc196277a2712a12d792b5e7105c99d02825d8f99ebf5d28131d9e", func := "pagecache/pagecachelaw36.CrashMore", spec := "crashMore", inPlace := ["internal/abi.NoEscape"], unfollowed := true, recurses := true, apart := false, narrowed := true }
def CrashMoreUptoSaid : Prop := crashMoreUptoRow.holds Try.pinned (OpenSpec.upto crashMoreSpec)

/-- 'pagecachelaw36.CrashFlying', WHERE WHAT IT READS IS OF BULK AT MOST 1048576: true; the input reads as it did. -/
def crashFlyingUptoRow : OpenClaim := { program := "ytlhcpeolkkadbaa", sum := "852ab81207fc196277a2712a12d792b5e7105c99d02825d8f99ebf5d28131d9e", func := "pagecache/pagecachelaw36.CrashFlying", spec := "crashFlying", inPlace := ["internal/abi.NoEscape"], unfollowed := true, recurses := true, apart := false, narrowed := true }
def CrashFlyingUptoSaid : Prop := crashFlyingUptoRow.holds Try.pinned (OpenSpec.upto crashFlyingSpec)

end Rows
end Go.Proofs.Ytlhcpeolkkadbaa
