/-
  No cell of these rows narrows 'for every input' (looked for: loops, veiled, ifaces, maps, wideKeys, modest, calm, conditions, laid).
  DERIVED. THE GIVEN ROWS OF THIS SEAT. 3 by the template 'for every input the law returns true; each argument reads behind the call as it read before'; 0 by the template 'total and deterministic' (their statements: YtglooclndbfhgaaTotals.lean).
  GIVEN WITH THE SEED: the statements are not yours to turn. If you find one false, say at which input.
  Laid BY PROGRAM, IN A SANDBOX (cutbox-rows.mjs): the forced cells as the released guide's own fill.sh prints them over the translation 6aac1e288db45ca0… (all of the seat's roots in one cut). By AI agents, Wed Nov 11 2026. No macro, syntax, notation, axiom, sorry.
-/
import Derived.Test.YtglooclndbfhgaaChecked
import GoSem.Claim
import GoSem.ClaimJoined
import GoSem.ClaimMapViews
import Derived.JoinedTies
import Derived.KernelRfl
namespace Go.Proofs.Ytglooclndbfhgaa
/- THE CELL 'sum', in the pinned program and in every row, IS THE sha256 OF THE DUMP (.gsa) THAT YtglooclndbfhgaaProg.lean LOADS. Nothing in Lean hashes anything: it is a label: what it is worth is what the hold of that sum in a sandbox is worth. -/
noncomputable def Try.pinned : Pinned := { name := "ytglooclndbfhgaa", sum := "6aac1e288db45ca0819c0c92f447115fc715a776fd4ff692d77201b4a02741cb", checked := Try.checked }
namespace Rows
def none {H : Type} : Left H := { results := [], args := [] }

/-- 'pagecachelaw34.FlushingExact': WHATEVER THE INPUT: true; the input reads as it did. -/
def flushingExactSpec : ChangeSpec := { name := "flushingExact", fn := fun _ => fun
  | [d1, d2, d3, d4] => { results := [.lit (.bool true)], args := [d1, d2, d3, d4] }
  | _ => none }
def flushingExactRow : OpenClaim := { program := "ytglooclndbfhgaa", sum := "6aac1e288db45ca0819c0c92f447115fc715a776fd4ff692d77201b4a02741cb", func := "pagecache/pagecachelaw34.FlushingExact", spec := "flushingExact", apart := false }
def FlushingExactSaid : Prop := flushingExactRow.holds Try.pinned (OpenSpec.ofChange flushingExactSpec)

/-- ITS FALSE NEIGHBOUR: 'it returns false'. Refute it at one input. -/
def flushingExactWrong : ChangeSpec := { name := "flushingExact", fn := fun _ => fun
  | [d1, d2, d3, d4] => { results := [.lit (.bool false)], args := [d1, d2, d3, d4] }
  | _ => none }
def FlushingExactWrongFalsely : Prop := flushingExactRow.holds Try.pinned (OpenSpec.ofChange flushingExactWrong)

/-- 'pagecachelaw34.FlushingStages': WHATEVER THE INPUT: true; the input reads as it did. -/
def flushingStagesSpec : ChangeSpec := { name := "flushingStages", fn := fun _ => fun
  | [d1, d2, d3, d4] => { results := [.lit (.bool true)], args := [d1, d2, d3, d4] }
  | _ => none }
def flushingStagesRow : OpenClaim := { program := "ytglooclndbfhgaa", sum := "6aac1e288db45ca0819c0c92f447115fc715a776fd4ff692d77201b4a02741cb", func := "pagecache/pagecachelaw34.FlushingStages", spec := "flushingStages", apart := false }
def FlushingStagesSaid : Prop := flushingStagesRow.holds Try.pinned (OpenSpec.ofChange flushingStagesSpec)

/-- ITS FALSE NEIGHBOUR: 'it returns false'. Refute it at one input. -/
def flushingStagesWrong : ChangeSpec := { name := "flushingStages", fn := fun _ => fun
  | [d1, d2, d3, d4] => { results := [.lit (.bool false)], args := [d1, d2, d3, d4] }
  | _ => none }
def FlushingStagesWrongFalsely : Prop := flushingStagesRow.holds Try.pinned (OpenSpec.ofChange flushingStagesWrong)

/-- 'pagecachelaw34.FlushingRides': WHATEVER THE INPUT: true; the input reads as it did. -/
def flushingRidesSpec : ChangeSpec := { name := "flushingRides", fn := fun _ => fun
  | [d] => { results := [.lit (.bool true)], args := [d] }
  | _ => none }
def flushingRidesRow : OpenClaim := { program := "ytglooclndbfhgaa", sum := "6aac1e288db45ca0819c0c92f447115fc715a776fd4ff692d77201b4a02741cb", func := "pagecache/pagecachelaw34.FlushingRides", spec := "flushingRides", apart := false }
def FlushingRidesSaid : Prop := flushingRidesRow.holds Try.pinned (OpenSpec.ofChange flushingRidesSpec)

/-- ITS FALSE NEIGHBOUR: 'it returns false'. Refute it at one input. -/
def flushingRidesWrong : ChangeSpec := { name := "flushingRides", fn := fun _ => fun
  | [d] => { results := [.lit (.bool false)], args := [d] }
  | _ => none }
def FlushingRidesWrongFalsely : Prop := flushingRidesRow.holds Try.pinned (OpenSpec.ofChange flushingRidesWrong)

/- THE SECOND FORM. 'bulk': how many values and letters a reading holds, each counted each time it is reached (what is shared counts as often as it is met; a slice's spare places count too). A statement '..UptoSaid' is the law's where the arguments, and the package variables that the reading takes, are together of bulk at most 1048576: NARROWER than '..Said'. Prove '..Said' where nothing that the law and all that it calls make is longer than what came in: it says more and counts as full. Else prove '..UptoSaid'. A law counts once. -/
mutual
def uptoBulk {H : Type} : DataW H → Nat
  | .lit (.string bytes) => bytes.length + 1
  | .lit _ => 1
  | .nil => 1
  | .ptr d => uptoBulk d + 1
  | .slice elems spare => uptoBulkAll elems + uptoBulkAll spare + 1
  | .agg parts => uptoBulkAll parts + 1
  | .iface _ d => uptoBulk d + 1
  | .map entries => uptoBulkEntries entries + 1
  | .held _ => 1
def uptoBulkAll {H : Type} : List (DataW H) → Nat
  | [] => 0
  | d :: r => uptoBulk d + uptoBulkAll r
def uptoBulkEntries {H : Type} : List (Lit × DataW H) → Nat
  | [] => 0
  | x :: r => uptoBulkEntry x + uptoBulkEntries r
def uptoBulkEntry {H : Type} : Lit × DataW H → Nat
  | (.string bytes, d) => bytes.length + uptoBulk d + 1
  | (_, d) => uptoBulk d + 1
 end
def uptoSmall : (H : Type) → List (DataW H) → Bool := fun _ ds => decide (uptoBulkAll ds ≤ 1048576)
def OpenSpec.upto (s : _root_.Go.ChangeSpec) : _root_.Go.OpenSpec := { _root_.Go.OpenSpec.ofChange s with cond := some uptoSmall }

/-- 'pagecachelaw34.FlushingExact', WHERE WHAT IT READS IS OF BULK AT MOST 1048576: true; the input reads as it did. -/
def flushingExactUptoRow : OpenClaim := { program := "ytglooclndbfhgaa", sum := "6aac1e288db45ca0819c0c92f447115fc715a776fd4ff692d77201b4a02741cb", func := "pagecache/pagecachelaw34.FlushingExact", spec := "flushingExact", apart := false, narrowed := true }
def FlushingExactUptoSaid : Prop := flushingExactUptoRow.holds Try.pinned (OpenSpec.upto flushingExactSpec)

/-- 'pagecachelaw34.FlushingStages', WHERE WHAT IT READS IS OF BULK AT MOST 1048576: true; the input reads as it did. -/
def flushingStagesUptoRow : OpenClaim := { program := "ytglooclndbfhgaa", sum := "6aac1e288db45ca0819c0c92f447115fc715a776fd4ff692d77201b4a02741cb", func := "pagecache/pagecachelaw34.FlushingStages", spec := "flushingStages", apart := false, narrowed := true }
def FlushingStagesUptoSaid : Prop := flushingStagesUptoRow.holds Try.pinned (OpenSpec.upto flushingStagesSpec)

/-- 'pagecachelaw34.FlushingRides', WHERE WHAT IT READS IS OF BULK AT MOST 1048576: true; the input reads as it did. -/
def flushingRidesUptoRow : OpenClaim := { program := "ytglooclndbfhgaa", sum := "6aac1e288db45ca0819c0c92f447115fc715a776fd4ff692d77201b4a02741cb", func := "pagecache/pagecachelaw34.FlushingRides", spec := "flushingRides", apart := false, narrowed := true }
def FlushingRidesUptoSaid : Prop := flushingRidesUptoRow.holds Try.pinned (OpenSpec.upto flushingRidesSpec)

end Rows
end Go.Proofs.Ytglooclndbfhgaa
