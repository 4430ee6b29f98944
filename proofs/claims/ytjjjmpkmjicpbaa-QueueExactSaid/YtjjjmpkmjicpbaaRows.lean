/-
  No cell of these rows narrows 'for every input' (looked for: loops, veiled, ifaces, maps, wideKeys, modest, calm, conditions, laid).
  DERIVED. THE GIVEN ROWS OF THIS SEAT. 7 by the template 'for every input the law returns true; each argument reads behind the call as it read before'; 0 by the template 'total and deterministic' (their statements: YtjjjmpkmjicpbaaTotals.lean).
  GIVEN WITH THE SEED: the statements are not yours to turn. If you find one false, say at which input.
  Laid BY PROGRAM, IN A SANDBOX (cutbox-rows.mjs): the forced cells as the released guide's own fill.sh prints them over the translation 91aa6323e012e028… (all of the seat's roots in one cut). By AI agents, Wed Nov 11 2026. No macro, syntax, notation, axiom, sorry.
-/
import Derived.Test.YtjjjmpkmjicpbaaChecked
import GoSem.Claim
import GoSem.ClaimJoined
import GoSem.ClaimMapViews
import Derived.JoinedTies
import Derived.KernelRfl
namespace Go.Proofs.Ytjjjmpkmjicpbaa
/- THE CELL 'sum', in the pinned program and in every row, IS THE sha256 OF THE DUMP (.gsa) THAT YtjjjmpkmjicpbaaProg.lean LOADS. Nothing in Lean hashes anything: it is a label: what it is worth is what the hold of that sum in a sandbox is worth. -/
noncomputable def Try.pinned : Pinned := { name := "ytjjjmpkmjicpbaa", sum := "91aa6323e012e028127d7cd5e779cb385b2376928dfc68ca7698501e513e0c82", checked := Try.checked }
namespace Rows
def none {H : Type} : Left H := { results := [], args := [] }

/-- 'pagecachelaw22.QueueSerial': WHATEVER THE INPUT: true; the input reads as it did. -/
def queueSerialSpec : ChangeSpec := { name := "queueSerial", fn := fun _ => fun
  | [d1, d2] => { results := [.lit (.bool true)], args := [d1, d2] }
  | _ => none }
def queueSerialRow : OpenClaim := { program := "ytjjjmpkmjicpbaa", sum := "91aa6323e012e028127d7cd5e779cb385b2376928dfc68ca7698501e513e0c82", func := "pagecache/pagecachelaw22.QueueSerial", spec := "queueSerial", unfollowed := true, recurses := true, apart := false }
def QueueSerialSaid : Prop := queueSerialRow.holds Try.pinned (OpenSpec.ofChange queueSerialSpec)

/-- ITS FALSE NEIGHBOUR: 'it returns false'. Refute it at one input. -/
def queueSerialWrong : ChangeSpec := { name := "queueSerial", fn := fun _ => fun
  | [d1, d2] => { results := [.lit (.bool false)], args := [d1, d2] }
  | _ => none }
def QueueSerialWrongFalsely : Prop := queueSerialRow.holds Try.pinned (OpenSpec.ofChange queueSerialWrong)

/-- 'pagecachelaw22.QueueCosts': WHATEVER THE INPUT: true; the input reads as it did. -/
def queueCostsSpec : ChangeSpec := { name := "queueCosts", fn := fun _ => fun
  | [d1, d2, d3, d4, d5] => { results := [.lit (.bool true)], args := [d1, d2, d3, d4, d5] }
  | _ => none }
def queueCostsRow : OpenClaim := { program := "ytjjjmpkmjicpbaa", sum := "91aa6323e012e028127d7cd5e779cb385b2376928dfc68ca7698501e513e0c82", func := "pagecache/pagecachelaw22.QueueCosts", spec := "queueCosts", unfollowed := true, recurses := true, apart := false }
def QueueCostsSaid : Prop := queueCostsRow.holds Try.pinned (OpenSpec.ofChange queueCostsSpec)

/-- ITS FALSE NEIGHBOUR: 'it returns false'. Refute it at one input. -/
def queueCostsWrong : ChangeSpec := { name := "queueCosts", fn := fun _ => fun
  | [d1, d2, d3, d4, d5] => { results := [.lit (.bool false)], args := [d1, d2, d3, d4, d5] }
  | _ => none }
def QueueCostsWrongFalsely : Prop := queueCostsRow.holds Try.pinned (OpenSpec.ofChange queueCostsWrong)

/-- 'pagecachelaw22.QueueSums': WHATEVER THE INPUT: true; the input reads as it did. -/
def queueSumsSpec : ChangeSpec := { name := "queueSums", fn := fun _ => fun
  | [d1, d2, d3] => { results := [.lit (.bool true)], args := [d1, d2, d3] }
  | _ => none }
def queueSumsRow : OpenClaim := { program := "ytjjjmpkmjicpbaa", sum := "91aa6323e012e028127d7cd5e779cb385b2376928dfc68ca7698501e513e0c82", func := "pagecache/pagecachelaw22.QueueSums", spec := "queueSums", unfollowed := true, recurses := true, apart := false }
def QueueSumsSaid : Prop := queueSumsRow.holds Try.pinned (OpenSpec.ofChange queueSumsSpec)

/-- ITS FALSE NEIGHBOUR: 'it returns false'. Refute it at one input. -/
def queueSumsWrong : ChangeSpec := { name := "queueSums", fn := fun _ => fun
  | [d1, d2, d3] => { results := [.lit (.bool false)], args := [d1, d2, d3] }
  | _ => none }
def QueueSumsWrongFalsely : Prop := queueSumsRow.holds Try.pinned (OpenSpec.ofChange queueSumsWrong)

/-- 'pagecachelaw22.QueueDone': WHATEVER THE INPUT: true; the input reads as it did. -/
def queueDoneSpec : ChangeSpec := { name := "queueDone", fn := fun _ => fun
  | [d1, d2] => { results := [.lit (.bool true)], args := [d1, d2] }
  | _ => none }
def queueDoneRow : OpenClaim := { program := "ytjjjmpkmjicpbaa", sum := "91aa6323e012e028127d7cd5e779cb385b2376928dfc68ca7698501e513e0c82", func := "pagecache/pagecachelaw22.QueueDone", spec := "queueDone", unfollowed := true, recurses := true, apart := false }
def QueueDoneSaid : Prop := queueDoneRow.holds Try.pinned (OpenSpec.ofChange queueDoneSpec)

/-- ITS FALSE NEIGHBOUR: 'it returns false'. Refute it at one input. -/
def queueDoneWrong : ChangeSpec := { name := "queueDone", fn := fun _ => fun
  | [d1, d2] => { results := [.lit (.bool false)], args := [d1, d2] }
  | _ => none }
def QueueDoneWrongFalsely : Prop := queueDoneRow.holds Try.pinned (OpenSpec.ofChange queueDoneWrong)

/-- 'pagecachelaw22.QueueResets': WHATEVER THE INPUT: true; the input reads as it did. -/
def queueResetsSpec : ChangeSpec := { name := "queueResets", fn := fun _ => fun
  | [d1, d2, d3] => { results := [.lit (.bool true)], args := [d1, d2, d3] }
  | _ => none }
def queueResetsRow : OpenClaim := { program := "ytjjjmpkmjicpbaa", sum := "91aa6323e012e028127d7cd5e779cb385b2376928dfc68ca7698501e513e0c82", func := "pagecache/pagecachelaw22.QueueResets", spec := "queueResets", unfollowed := true, recurses := true, apart := false }
def QueueResetsSaid : Prop := queueResetsRow.holds Try.pinned (OpenSpec.ofChange queueResetsSpec)

/-- ITS FALSE NEIGHBOUR: 'it returns false'. Refute it at one input. -/
def queueResetsWrong : ChangeSpec := { name := "queueResets", fn := fun _ => fun
  | [d1, d2, d3] => { results := [.lit (.bool false)], args := [d1, d2, d3] }
  | _ => none }
def QueueResetsWrongFalsely : Prop := queueResetsRow.holds Try.pinned (OpenSpec.ofChange queueResetsWrong)

/-- 'pagecachelaw22.QueueSmall': WHATEVER THE INPUT: true; the input reads as it did. -/
def queueSmallSpec : ChangeSpec := { name := "queueSmall", fn := fun _ => fun
  | [d1, d2, d3, d4] => { results := [.lit (.bool true)], args := [d1, d2, d3, d4] }
  | _ => none }
def queueSmallRow : OpenClaim := { program := "ytjjjmpkmjicpbaa", sum := "91aa6323e012e028127d7cd5e779cb385b2376928dfc68ca7698501e513e0c82", func := "pagecache/pagecachelaw22.QueueSmall", spec := "queueSmall", unfollowed := true, recurses := true, apart := false }
def QueueSmallSaid : Prop := queueSmallRow.holds Try.pinned (OpenSpec.ofChange queueSmallSpec)

/-- ITS FALSE NEIGHBOUR: 'it returns false'. Refute it at one input. -/
def queueSmallWrong : ChangeSpec := { name := "queueSmall", fn := fun _ => fun
  | [d1, d2, d3, d4] => { results := [.lit (.bool false)], args := [d1, d2, d3, d4] }
  | _ => none }
def QueueSmallWrongFalsely : Prop := queueSmallRow.holds Try.pinned (OpenSpec.ofChange queueSmallWrong)

/-- 'pagecachelaw22.QueueExact': WHATEVER THE INPUT: true; the input reads as it did. -/
def queueExactSpec : ChangeSpec := { name := "queueExact", fn := fun _ => fun
  | [d1, d2, d3, d4, d5, d6, d7, d8] => { results := [.lit (.bool true)], args := [d1, d2, d3, d4, d5, d6, d7, d8] }
  | _ => none }
def queueExactRow : OpenClaim := { program := "ytjjjmpkmjicpbaa", sum := "91aa6323e012e028127d7cd5e779cb385b2376928dfc68ca7698501e513e0c82", func := "pagecache/pagecachelaw22.QueueExact", spec := "queueExact", unfollowed := true, recurses := true, apart := false }
def QueueExactSaid : Prop := queueExactRow.holds Try.pinned (OpenSpec.ofChange queueExactSpec)

/-- ITS FALSE NEIGHBOUR: 'it returns false'. Refute it at one input. -/
def queueExactWrong : ChangeSpec := { name := "queueExact", fn := fun _ => fun
  | [d1, d2, d3, d4, d5, d6, d7, d8] => { results := [.lit (.bool false)], args := [d1, d2, d3, d4, d5, d6, d7, d8] }
  | _ => none }
def QueueExactWrongFalsely : Prop := queueExactRow.holds Try.pinned (OpenSpec.ofChange queueExactWrong)

/- THE SECOND FORM. 'bulk': how many values and letters a reading holds, each counted each time it is reached (what is shared counts as often as it is met; a slice's spare places count too). A statement '..UptoSaid' is the law's where the arguments, and the package variables that the reading takes, are together of bulk at most 1048576: NARROWER than '..Said'. Prove '..Said' where nothing that the law and all that it calls make is longer than what came in: it says more and counts as full. Else prove '..UptoSaid'. A law counts once. -/
mutual
def uptoBulk {H : Type} : DataW H → Nat
  | .lit (.string bytes) => bytes.length + 1
  | .lit _ => 1
  | .nil => 1
  | .ptr d => uptoBulk d + 1
  | .slice elems spare => uptoBulkAll elems + uptoBulkAll spare + 1
  | .agg parts => uptoBulkAll parts + 1
  | .iface _ d => uptoBulk d + 1
  | .map entries => uptoBulkEntries entries + 1
  | .held _ => 1
def uptoBulkAll {H : Type} : List (DataW H) → Nat
  | [] => 0
  | d :: r => uptoBulk d + uptoBulkAll r
def uptoBulkEntries {H : Type} : List (Lit × DataW H) → Nat
  | [] => 0
  | x :: r => uptoBulkEntry x + uptoBulkEntries r
def uptoBulkEntry {H : Type} : Lit × DataW H → Nat
  | (.string bytes, d) => bytes.length + uptoBulk d + 1
  | (_, d) => uptoBulk d + 1
 end
def uptoSmall : (H : Type) → List (DataW H) → Bool := fun _ ds => decide (uptoBulkAll ds ≤ 1048576)
def OpenSpec.upto (s : _root_.Go.ChangeSpec) : _root_.Go.OpenSpec := { _root_.Go.OpenSpec.ofChange s with cond := some uptoSmall }

/-- 'pagecachelaw22.QueueSerial', WHERE WHAT IT READS IS OF BULK AT MOST 1048576: true; the input reads as it did. -/
def queueSerialUptoRow : OpenClaim := { program := "ytjjjmpkmjicpbaa", sum := "91aa6323e012e028127d7cd5e779cb385b2376928dfc68ca7698501e513e0c82", func := "pagecache/pagecachelaw22.QueueSerial", spec := "queueSerial", unfollowed := true, recurses := true, apart := false, narrowed := true }
def QueueSerialUptoSaid : Prop := queueSerialUptoRow.holds Try.pinned (OpenSpec.upto queueSerialSpec)

/-- 'pagecachelaw22.QueueCosts', WHERE WHAT IT READS IS OF BULK AT MOST 1048576: true; the input reads as it did. -/
def queueCostsUptoRow : OpenClaim := { program := "ytjjjmpkmjicpbaa", sum := "91aa6323e012e028127d7cd5e779cb385b2376928dfc68ca7698501e513e0c82", func := "pagecache/pagecachelaw22.QueueCosts", spec := "queueCosts", unfollowed := true, recurses := true, apart := false, narrowed := true }
def QueueCostsUptoSaid : Prop := queueCostsUptoRow.holds Try.pinned (OpenSpec.upto queueCostsSpec)

/-- 'pagecachelaw22.QueueSums', WHERE WHAT IT READS IS OF BULK AT MOST 1048576: true; the input reads as it did. -/
def queueSumsUptoRow : OpenClaim := { program := "ytjjjmpkmjicpbaa", sum := "91aa6323e012e028127d7cd5e779cb385b2376928dfc68ca7698501e513e0c82", func := "pagecache/pagecachelaw22.QueueSums", spec := "queueSums", unfollowed := true, recurses := true, apart := false, narrowed := true }
def QueueSumsUptoSaid : Prop := queueSumsUptoRow.holds Try.pinned (OpenSpec.upto queueSumsSpec)

/-- 'pagecachelaw22.QueueDone', WHERE WHAT IT READS IS OF BULK AT MOST 1048576: true; the input reads as it did. -/
def queueDoneUptoRow : OpenClaim := { program := "ytjjjmpkmjicpbaa", sum := "91aa6323e012e028127d7cd5e779cb385b2376928dfc68ca7698501e513e0c82", func := "pagecache/pagecachelaw22.QueueDone", spec := "queueDone", unfollowed := true, recurses := true, apart := false, narrowed := true }
def QueueDoneUptoSaid : Prop := queueDoneUptoRow.holds Try.pinned (OpenSpec.upto queueDoneSpec)

/-- 'pagecachelaw22.QueueResets', WHERE WHAT IT READS IS OF BULK AT MOST 1048576: true; the input reads as it did. -/
def queueResetsUptoRow : OpenClaim := { program := "ytjjjmpkmjicpbaa", sum := "91aa6323e012e028127d7cd5e779cb385b2376928dfc68ca7698501e513e0c82", func := "pagecache/pagecachelaw22.QueueResets", spec := "queueResets", unfollowed := true, recurses := true, apart := false, narrowed := true }
def QueueResetsUptoSaid : Prop := queueResetsUptoRow.holds Try.pinned (OpenSpec.upto queueResetsSpec)

/-- 'pagecachelaw22.QueueSmall', WHERE WHAT IT READS IS OF BULK AT MOST 1048576: true; the input reads as it did. -/
def queueSmallUptoRow : OpenClaim := { program := "ytjjjmpkmjicpbaa", sum := "91aa6323e012e028127d7cd5e779cb385b2376928dfc68ca7698501e513e0c82", func := "pagecache/pagecachelaw22.QueueSmall", spec := "queueSmall", unfollowed := true, recurses := true, apart := false, narrowed := true }
def QueueSmallUptoSaid : Prop := queueSmallUptoRow.holds Try.pinned (OpenSpec.upto queueSmallSpec)

/-- 'pagecachelaw22.QueueExact', WHERE WHAT IT READS IS OF BULK AT MOST 1048576: true; the input reads as it did. -/
def queueExactUptoRow : OpenClaim := { program := "ytjjjmpkmjicpbaa", sum := "91aa6323e012e028127d7cd5e779cb385b2376928dfc68ca7698501e513e0c82", func := "pagecache/pagecachelaw22.QueueExact", spec := "queueExact", unfollowed := true, recurses := true, apart := false, narrowed := true }
def QueueExactUptoSaid : Prop := queueExactUptoRow.holds Try.pinned (OpenSpec.upto queueExactSpec)

end Rows
end Go.Proofs.Ytjjjmpkmjicpbaa
