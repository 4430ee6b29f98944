/-
  No cell of these rows narrows 'for every input' (looked for: loops, veiled, ifaces, maps, wideKeys, modest, calm, conditions, laid).
  DERIVED. THE GIVEN ROWS OF THIS SEAT. 4 by the template 'for every input the law returns true; each argument reads behind the call as it read before'; 0 by the template 'total and deterministic' (their statements: YtaakkkknnihfmaaTotals.lean).
  GIVEN WITH THE SEED: the statements are not yours to turn. If you find one false, say at which input.
  Laid BY PROGRAM, IN A SANDBOX (cutbox-rows.mjs): the forced cells as the released guide's own fill.sh prints them over the translation cb499470ef9e732e… (all of the seat's roots in one cut). By AI agents, Wed Nov 11 2026. No macro, syntax, notation, axiom, sorry.
-/
import Derived.Test.YtaakkkknnihfmaaChecked
import GoSem.Claim
import GoSem.ClaimJoined
import GoSem.ClaimMapViews
import Derived.JoinedTies
import Derived.KernelRfl
namespace Go.Proofs.Ytaakkkknnihfmaa
/- THE CELL 'sum', in the pinned program and in every row, IS THE sha256 OF THE DUMP (.gsa) THAT YtaakkkknnihfmaaProg.lean LOADS. Nothing in Lean hashes anything: it is a label: what it is worth is what the hold of that sum in a sandbox is worth. -/
noncomputable def Try.pinned : Pinned := { name := "ytaakkkknnihfmaa", sum := "cb499470ef9e732ed8ccc49eaaea0f858866c1f9f301bcc9cb73fbd544bd742c", checked := Try.checked }
namespace Rows
def none {H : Type} : Left H := { results := [], args := [] }

/-- 'pagecachelaw27.TagReserves': WHATEVER THE INPUT: true; the input reads as it did. -/
def tagReservesSpec : ChangeSpec := { name := "tagReserves", fn := fun _ => fun
  | [d1, d2, d3] => { results := [.lit (.bool true)], args := [d1, d2, d3] }
  | _ => none }
def tagReservesRow : OpenClaim := { program := "ytaakkkknnihfmaa", sum := "cb499470ef9e732ed8ccc49eaaea0f858866c1f9f301bcc9cb73fbd544bd742c", func := "pagecache/pagecachelaw27.TagReserves", spec := "tagReserves", unfollowed := true, recurses := true, apart := false }
def TagReservesSaid : Prop := tagReservesRow.holds Try.pinned (OpenSpec.ofChange tagReservesSpec)

/-- ITS FALSE NEIGHBOUR: 'it returns false'. Refute it at one input. -/
def tagReservesWrong : ChangeSpec := { name := "tagReserves", fn := fun _ => fun
  | [d1, d2, d3] => { results := [.lit (.bool false)], args := [d1, d2, d3] }
  | _ => none }
def TagReservesWrongFalsely : Prop := tagReservesRow.holds Try.pinned (OpenSpec.ofChange tagReservesWrong)

/-- 'pagecachelaw27.TagExact': WHATEVER THE INPUT: true; the input reads as it did. -/
def tagExactSpec : ChangeSpec := { name := "tagExact", fn := fun _ => fun
  | [d1, d2, d3, d4, d5, d6, d7] => { results := [.lit (.bool true)], args := [d1, d2, d3, d4, d5, d6, d7] }
  | _ => none }
def tagExactRow : OpenClaim := { program := "ytaakkkknnihfmaa", sum := "cb499470ef9e732ed8ccc49eaaea0f858866c1f9f301bcc9cb73fbd544bd742c", func := "pagecache/pagecachelaw27.TagExact", spec := "tagExact", unfollowed := true, recurses := true, apart := false }
def TagExactSaid : Prop := tagExactRow.holds Try.pinned (OpenSpec.ofChange tagExactSpec)

/-- ITS FALSE NEIGHBOUR: 'it returns false'. Refute it at one input. -/
def tagExactWrong : ChangeSpec := { name := "tagExact", fn := fun _ => fun
  | [d1, d2, d3, d4, d5, d6, d7] => { results := [.lit (.bool false)], args := [d1, d2, d3, d4, d5, d6, d7] }
  | _ => none }
def TagExactWrongFalsely : Prop := tagExactRow.holds Try.pinned (OpenSpec.ofChange tagExactWrong)

/-- 'pagecachelaw27.TagSmall': WHATEVER THE INPUT: true; the input reads as it did. -/
def tagSmallSpec : ChangeSpec := { name := "tagSmall", fn := fun _ => fun
  | [d1, d2, d3, d4] => { results := [.lit (.bool true)], args := [d1, d2, d3, d4] }
  | _ => none }
def tagSmallRow : OpenClaim := { program := "ytaakkkknnihfmaa", sum := "cb499470ef9e732ed8ccc49eaaea0f858866c1f9f301bcc9cb73fbd544bd742c", func := "pagecache/pagecachelaw27.TagSmall", spec := "tagSmall", unfollowed := true, recurses := true, apart := false }
def TagSmallSaid : Prop := tagSmallRow.holds Try.pinned (OpenSpec.ofChange tagSmallSpec)

/-- ITS FALSE NEIGHBOUR: 'it returns false'. Refute it at one input. -/
def tagSmallWrong : ChangeSpec := { name := "tagSmall", fn := fun _ => fun
  | [d1, d2, d3, d4] => { results := [.lit (.bool false)], args := [d1, d2, d3, d4] }
  | _ => none }
def TagSmallWrongFalsely : Prop := tagSmallRow.holds Try.pinned (OpenSpec.ofChange tagSmallWrong)

/-- 'pagecachelaw27.TagOwners': WHATEVER THE INPUT: true; the input reads as it did. -/
def tagOwnersSpec : ChangeSpec := { name := "tagOwners", fn := fun _ => fun
  | [d1, d2, d3, d4] => { results := [.lit (.bool true)], args := [d1, d2, d3, d4] }
  | _ => none }
def tagOwnersRow : OpenClaim := { program := "ytaakkkknnihfmaa", sum := "cb499470ef9e732ed8ccc49eaaea0f858866c1f9f301bcc9cb73fbd544bd742c", func := "pagecache/pagecachelaw27.TagOwners", spec := "tagOwners", unfollowed := true, recurses := true, apart := false }
def TagOwnersSaid : Prop := tagOwnersRow.holds Try.pinned (OpenSpec.ofChange tagOwnersSpec)

/-- ITS FALSE NEIGHBOUR: 'it returns false'. Refute it at one input. -/
def tagOwnersWrong : ChangeSpec := { name := "tagOwners", fn := fun _ => fun
  | [d1, d2, d3, d4] => { results := [.lit (.bool false)], args := [d1, d2, d3, d4] }
  | _ => none }
def TagOwnersWrongFalsely : Prop := tagOwnersRow.holds Try.pinned (OpenSpec.ofChange tagOwnersWrong)

/- THE SECOND FORM. 'bulk': how many values and letters a reading holds, each counted each time it is reached (what is shared counts as often as it is met; a slice's spare places count too). A statement '..UptoSaid' is the law's where the arguments, and the package variables that the reading takes, are together of bulk at most 1048576: NARROWER than '..Said'. Prove '..Said' where nothing that the law and all that it calls make is longer than what came in: it says more and counts as full. Else prove '..UptoSaid'. A law counts once. -/
mutual
def uptoBulk {H : Type} : DataW H → Nat
  | .lit (.string bytes) => bytes.length + 1
  | .lit _ => 1
  | .nil => 1
  | .ptr d => uptoBulk d + 1
  | .slice elems spare => uptoBulkAll elems + uptoBulkAll spare + 1
  | .agg parts => uptoBulkAll parts + 1
  | .iface _ d => uptoBulk d + 1
  | .map entries => uptoBulkEntries entries + 1
  | .held _ => 1
def uptoBulkAll {H : Type} : List (DataW H) → Nat
  | [] => 0
  | d :: r => uptoBulk d + uptoBulkAll r
def uptoBulkEntries {H : Type} : List (Lit × DataW H) → Nat
  | [] => 0
  | x :: r => uptoBulkEntry x + uptoBulkEntries r
def uptoBulkEntry {H : Type} : Lit × DataW H → Nat
  | (.string bytes, d) => bytes.length + uptoBulk d + 1
  | (_, d) => uptoBulk d + 1
 end
def uptoSmall : (H : Type) → List (DataW H) → Bool := fun _ ds => decide (uptoBulkAll ds ≤ 1048576)
def OpenSpec.upto (s : _root_.Go.ChangeSpec) : _root_.Go.OpenSpec := { _root_.Go.OpenSpec.ofChange s with cond := some uptoSmall }

/-- 'pagecachelaw27.TagReserves', WHERE WHAT IT READS IS OF BULK AT MOST 1048576: true; the input reads as it did. -/
def tagReservesUptoRow : OpenClaim := { program := "ytaakkkknnihfmaa", sum := "cb499470ef9e732ed8ccc49eaaea0f858866c1f9f301bcc9cb73fbd544bd742c", func := "pagecache/pagecachelaw27.TagReserves", spec := "tagReserves", unfollowed := true, recurses := true, apart := false, narrowed := true }
def TagReservesUptoSaid : Prop := tagReservesUptoRow.holds Try.pinned (OpenSpec.upto tagReservesSpec)

/-- 'pagecachelaw27.TagExact', WHERE WHAT IT READS IS OF BULK AT MOST 1048576: true; the input reads as it did. -/
def tagExactUptoRow : OpenClaim := { program := "ytaakkkknnihfmaa", sum := "cb499470ef9e732ed8ccc49eaaea0f858866c1f9f301bcc9cb73fbd544bd742c", func := "pagecache/pagecachelaw27.TagExact", spec := "tagExact", unfollowed := true, recurses := true, apart := false, narrowed := true }
def TagExactUptoSaid : Prop := tagExactUptoRow.holds Try.pinned (OpenSpec.upto tagExactSpec)

/-- 'pagecachelaw27.TagSmall', WHERE WHAT IT READS IS OF BULK AT MOST 1048576: true; the input reads as it did. -/
def tagSmallUptoRow : OpenClaim := { program := "ytaakkkknnihfmaa", sum := "cb499470ef9e732ed8ccc49eaaea0f858866c1f9f301bcc9cb73fbd544bd742c", func := "pagecache/pagecachelaw27.TagSmall", spec := "tagSmall", unfollowed := true, recurses := true, apart := false, narrowed := true }
def TagSmallUptoSaid : Prop := tagSmallUptoRow.holds Try.pinned (OpenSpec.upto tagSmallSpec)

/-- 'pagecachelaw27.TagOwners', WHERE WHAT IT READS IS OF BULK AT MOST 1048576: true; the input reads as it did. -/
def tagOwnersUptoRow : OpenClaim := { program := "ytaakkkknnihfmaa", sum := "cb499470ef9e732ed8ccc49eaaea0f858866c1f9f301bcc9cb73fbd544bd742c", func := "pagecache/pagecachelaw27.TagOwners", spec := "tagOwners", unfollowed := true, recurses := true, apart := false, narrowed := true }
def TagOwnersUptoSaid : Prop := tagOwnersUptoRow.holds Try.pinned (OpenSpec.upto tagOwnersSpec)

end Rows
end Go.Proofs.Ytaakkkknnihfmaa
