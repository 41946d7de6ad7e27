/-
  No cell of these rows narrows 'for every input' (looked for: loops, veiled, ifaces, maps, wideKeys, modest, calm, conditions, laid).
  DERIVED. THE GIVEN ROWS OF THIS SEAT. 11 by the template 'for every input the law returns true; each argument reads behind the call as it read before'; 0 by the template 'total and deterministic' (their statements: YtpjbniihdndlmabTotals.lean).
  GIVEN WITH THE SEED: the statements are not yours to turn. If you find one false, say at which input.
  Laid BY PROGRAM, IN A SANDBOX (cutbox-rows.mjs): the forced cells as the released guide's own fill.sh prints them over the translation 5a50e9c786f95ee8… (all of the seat's roots in one cut). By AI agents, Wed Nov 11 2026. No macro, syntax, notation, axiom, sorry.
-/
import Derived.Test.YtpjbniihdndlmabChecked
import GoSem.Claim
import GoSem.ClaimJoined
import GoSem.ClaimMapViews
import Derived.JoinedTies
import Derived.KernelRfl
namespace Go.Proofs.Ytpjbniihdndlmab
/- THE CELL 'sum', in the pinned program and in every row, IS THE sha256 OF THE DUMP (.gsa) THAT YtpjbniihdndlmabProg.lean LOADS. Nothing in Lean hashes anything: it is a label: what it is worth is what the hold of that sum in a sandbox is worth. -/
noncomputable def Try.pinned : Pinned := { name := "ytpjbniihdndlmab", sum := "5a50e9c786f95ee8e272ac823b2f35f4c2ede1fe7e549c4a9d61a8bccd7188ab", checked := Try.checked }
namespace Rows
def none {H : Type} : Left H := { results := [], args := [] }

/-- 'cobweblaw02.FracOrders': WHATEVER THE INPUT: true; the input reads as it did. -/
def fracOrdersSpec : ChangeSpec := { name := "fracOrders", fn := fun _ => fun
  | [d1, d2] => { results := [.lit (.bool true)], args := [d1, d2] }
  | _ => none }
def fracOrdersRow : OpenClaim := { program := "ytpjbniihdndlmab", sum := "5a50e9c786f95ee8e272ac823b2f35f4c2ede1fe7e549c4a9d61a8bccd7188ab", func := "cobweb/cobweblaw02.FracOrders", spec := "fracOrders", inPlace := ["math/bits.Add64", "math/bits.Sub64"], apart := false }
def FracOrdersSaid : Prop := fracOrdersRow.holds Try.pinned (OpenSpec.ofChange fracOrdersSpec)

/-- ITS FALSE NEIGHBOUR: 'it returns false'. Refute it at one input. -/
def fracOrdersWrong : ChangeSpec := { name := "fracOrders", fn := fun _ => fun
  | [d1, d2] => { results := [.lit (.bool false)], args := [d1, d2] }
  | _ => none }
def FracOrdersWrongFalsely : Prop := fracOrdersRow.holds Try.pinned (OpenSpec.ofChange fracOrdersWrong)

/-- 'cobweblaw02.FracFloors': WHATEVER THE INPUT: true; the input reads as it did. -/
def fracFloorsSpec : ChangeSpec := { name := "fracFloors", fn := fun _ => fun
  | [d] => { results := [.lit (.bool true)], args := [d] }
  | _ => none }
def fracFloorsRow : OpenClaim := { program := "ytpjbniihdndlmab", sum := "5a50e9c786f95ee8e272ac823b2f35f4c2ede1fe7e549c4a9d61a8bccd7188ab", func := "cobweb/cobweblaw02.FracFloors", spec := "fracFloors", inPlace := ["math/bits.Add64", "math/bits.Sub64"], apart := false }
def FracFloorsSaid : Prop := fracFloorsRow.holds Try.pinned (OpenSpec.ofChange fracFloorsSpec)

/-- ITS FALSE NEIGHBOUR: 'it returns false'. Refute it at one input. -/
def fracFloorsWrong : ChangeSpec := { name := "fracFloors", fn := fun _ => fun
  | [d] => { results := [.lit (.bool false)], args := [d] }
  | _ => none }
def FracFloorsWrongFalsely : Prop := fracFloorsRow.holds Try.pinned (OpenSpec.ofChange fracFloorsWrong)

/-- 'cobweblaw02.FracSnaps': WHATEVER THE INPUT: true; the input reads as it did. -/
def fracSnapsSpec : ChangeSpec := { name := "fracSnaps", fn := fun _ => fun
  | [d1, d2] => { results := [.lit (.bool true)], args := [d1, d2] }
  | _ => none }
def fracSnapsRow : OpenClaim := { program := "ytpjbniihdndlmab", sum := "5a50e9c786f95ee8e272ac823b2f35f4c2ede1fe7e549c4a9d61a8bccd7188ab", func := "cobweb/cobweblaw02.FracSnaps", spec := "fracSnaps", inPlace := ["math/bits.Add64", "math/bits.Sub64"], apart := false }
def FracSnapsSaid : Prop := fracSnapsRow.holds Try.pinned (OpenSpec.ofChange fracSnapsSpec)

/-- ITS FALSE NEIGHBOUR: 'it returns false'. Refute it at one input. -/
def fracSnapsWrong : ChangeSpec := { name := "fracSnaps", fn := fun _ => fun
  | [d1, d2] => { results := [.lit (.bool false)], args := [d1, d2] }
  | _ => none }
def FracSnapsWrongFalsely : Prop := fracSnapsRow.holds Try.pinned (OpenSpec.ofChange fracSnapsWrong)

/-- 'cobweblaw02.FracRises': WHATEVER THE INPUT: true; the input reads as it did. -/
def fracRisesSpec : ChangeSpec := { name := "fracRises", fn := fun _ => fun
  | [d1, d2, d3] => { results := [.lit (.bool true)], args := [d1, d2, d3] }
  | _ => none }
def fracRisesRow : OpenClaim := { program := "ytpjbniihdndlmab", sum := "5a50e9c786f95ee8e272ac823b2f35f4c2ede1fe7e549c4a9d61a8bccd7188ab", func := "cobweb/cobweblaw02.FracRises", spec := "fracRises", inPlace := ["math/bits.Add64", "math/bits.Sub64"], apart := false }
def FracRisesSaid : Prop := fracRisesRow.holds Try.pinned (OpenSpec.ofChange fracRisesSpec)

/-- ITS FALSE NEIGHBOUR: 'it returns false'. Refute it at one input. -/
def fracRisesWrong : ChangeSpec := { name := "fracRises", fn := fun _ => fun
  | [d1, d2, d3] => { results := [.lit (.bool false)], args := [d1, d2, d3] }
  | _ => none }
def FracRisesWrongFalsely : Prop := fracRisesRow.holds Try.pinned (OpenSpec.ofChange fracRisesWrong)

/-- 'cobweblaw02.FracTurned': WHATEVER THE INPUT: true; the input reads as it did. -/
def fracTurnedSpec : ChangeSpec := { name := "fracTurned", fn := fun _ => fun
  | [d1, d2] => { results := [.lit (.bool true)], args := [d1, d2] }
  | _ => none }
def fracTurnedRow : OpenClaim := { program := "ytpjbniihdndlmab", sum := "5a50e9c786f95ee8e272ac823b2f35f4c2ede1fe7e549c4a9d61a8bccd7188ab", func := "cobweb/cobweblaw02.FracTurned", spec := "fracTurned", inPlace := ["math/bits.Add64", "math/bits.Sub64"], apart := false }
def FracTurnedSaid : Prop := fracTurnedRow.holds Try.pinned (OpenSpec.ofChange fracTurnedSpec)

/-- ITS FALSE NEIGHBOUR: 'it returns false'. Refute it at one input. -/
def fracTurnedWrong : ChangeSpec := { name := "fracTurned", fn := fun _ => fun
  | [d1, d2] => { results := [.lit (.bool false)], args := [d1, d2] }
  | _ => none }
def FracTurnedWrongFalsely : Prop := fracTurnedRow.holds Try.pinned (OpenSpec.ofChange fracTurnedWrong)

/-- 'cobweblaw03.GridSnaps': WHATEVER THE INPUT: true; the input reads as it did. -/
def gridSnapsSpec : ChangeSpec := { name := "gridSnaps", fn := fun _ => fun
  | [d1, d2, d3] => { results := [.lit (.bool true)], args := [d1, d2, d3] }
  | _ => none }
def gridSnapsRow : OpenClaim := { program := "ytpjbniihdndlmab", sum := "5a50e9c786f95ee8e272ac823b2f35f4c2ede1fe7e549c4a9d61a8bccd7188ab", func := "cobweb/cobweblaw03.GridSnaps", spec := "gridSnaps", inPlace := ["math/bits.Add64", "math/bits.Sub64"], unfollowed := true, recurses := true, apart := false }
def GridSnapsSaid : Prop := gridSnapsRow.holds Try.pinned (OpenSpec.ofChange gridSnapsSpec)

/-- ITS FALSE NEIGHBOUR: 'it returns false'. Refute it at one input. -/
def gridSnapsWrong : ChangeSpec := { name := "gridSnaps", fn := fun _ => fun
  | [d1, d2, d3] => { results := [.lit (.bool false)], args := [d1, d2, d3] }
  | _ => none }
def GridSnapsWrongFalsely : Prop := gridSnapsRow.holds Try.pinned (OpenSpec.ofChange gridSnapsWrong)

/-- 'cobweblaw03.GridAt': WHATEVER THE INPUT: true; the input reads as it did. -/
def gridAtSpec : ChangeSpec := { name := "gridAt", fn := fun _ => fun
  | [d1, d2, d3] => { results := [.lit (.bool true)], args := [d1, d2, d3] }
  | _ => none }
def gridAtRow : OpenClaim := { program := "ytpjbniihdndlmab", sum := "5a50e9c786f95ee8e272ac823b2f35f4c2ede1fe7e549c4a9d61a8bccd7188ab", func := "cobweb/cobweblaw03.GridAt", spec := "gridAt", inPlace := ["math/bits.Add64", "math/bits.Sub64"], unfollowed := true, recurses := true, apart := false }
def GridAtSaid : Prop := gridAtRow.holds Try.pinned (OpenSpec.ofChange gridAtSpec)

/-- ITS FALSE NEIGHBOUR: 'it returns false'. Refute it at one input. -/
def gridAtWrong : ChangeSpec := { name := "gridAt", fn := fun _ => fun
  | [d1, d2, d3] => { results := [.lit (.bool false)], args := [d1, d2, d3] }
  | _ => none }
def GridAtWrongFalsely : Prop := gridAtRow.holds Try.pinned (OpenSpec.ofChange gridAtWrong)

/-- 'cobweblaw03.GridCenters': WHATEVER THE INPUT: true; the input reads as it did. -/
def gridCentersSpec : ChangeSpec := { name := "gridCenters", fn := fun _ => fun
  | [d1, d2, d3] => { results := [.lit (.bool true)], args := [d1, d2, d3] }
  | _ => none }
def gridCentersRow : OpenClaim := { program := "ytpjbniihdndlmab", sum := "5a50e9c786f95ee8e272ac823b2f35f4c2ede1fe7e549c4a9d61a8bccd7188ab", func := "cobweb/cobweblaw03.GridCenters", spec := "gridCenters", inPlace := ["math/bits.Add64", "math/bits.Sub64"], unfollowed := true, recurses := true, apart := false }
def GridCentersSaid : Prop := gridCentersRow.holds Try.pinned (OpenSpec.ofChange gridCentersSpec)

/-- ITS FALSE NEIGHBOUR: 'it returns false'. Refute it at one input. -/
def gridCentersWrong : ChangeSpec := { name := "gridCenters", fn := fun _ => fun
  | [d1, d2, d3] => { results := [.lit (.bool false)], args := [d1, d2, d3] }
  | _ => none }
def GridCentersWrongFalsely : Prop := gridCentersRow.holds Try.pinned (OpenSpec.ofChange gridCentersWrong)

/-- 'cobweblaw03.GridHolds': WHATEVER THE INPUT: true; the input reads as it did. -/
def gridHoldsSpec : ChangeSpec := { name := "gridHolds", fn := fun _ => fun
  | [d1, d2, d3] => { results := [.lit (.bool true)], args := [d1, d2, d3] }
  | _ => none }
def gridHoldsRow : OpenClaim := { program := "ytpjbniihdndlmab", sum := "5a50e9c786f95ee8e272ac823b2f35f4c2ede1fe7e549c4a9d61a8bccd7188ab", func := "cobweb/cobweblaw03.GridHolds", spec := "gridHolds", inPlace := ["math/bits.Add64", "math/bits.Sub64"], unfollowed := true, recurses := true, apart := false }
def GridHoldsSaid : Prop := gridHoldsRow.holds Try.pinned (OpenSpec.ofChange gridHoldsSpec)

/-- ITS FALSE NEIGHBOUR: 'it returns false'. Refute it at one input. -/
def gridHoldsWrong : ChangeSpec := { name := "gridHolds", fn := fun _ => fun
  | [d1, d2, d3] => { results := [.lit (.bool false)], args := [d1, d2, d3] }
  | _ => none }
def GridHoldsWrongFalsely : Prop := gridHoldsRow.holds Try.pinned (OpenSpec.ofChange gridHoldsWrong)

/-- 'cobweblaw03.GridOrders': WHATEVER THE INPUT: true; the input reads as it did. -/
def gridOrdersSpec : ChangeSpec := { name := "gridOrders", fn := fun _ => fun
  | [d1, d2, d3] => { results := [.lit (.bool true)], args := [d1, d2, d3] }
  | _ => none }
def gridOrdersRow : OpenClaim := { program := "ytpjbniihdndlmab", sum := "5a50e9c786f95ee8e272ac823b2f35f4c2ede1fe7e549c4a9d61a8bccd7188ab", func := "cobweb/cobweblaw03.GridOrders", spec := "gridOrders", inPlace := ["math/bits.Add64", "math/bits.Sub64"], unfollowed := true, recurses := true, apart := false }
def GridOrdersSaid : Prop := gridOrdersRow.holds Try.pinned (OpenSpec.ofChange gridOrdersSpec)

/-- ITS FALSE NEIGHBOUR: 'it returns false'. Refute it at one input. -/
def gridOrdersWrong : ChangeSpec := { name := "gridOrders", fn := fun _ => fun
  | [d1, d2, d3] => { results := [.lit (.bool false)], args := [d1, d2, d3] }
  | _ => none }
def GridOrdersWrongFalsely : Prop := gridOrdersRow.holds Try.pinned (OpenSpec.ofChange gridOrdersWrong)

/-- 'cobweblaw03.GridCoarse': WHATEVER THE INPUT: true; the input reads as it did. -/
def gridCoarseSpec : ChangeSpec := { name := "gridCoarse", fn := fun _ => fun
  | [d1, d2, d3] => { results := [.lit (.bool true)], args := [d1, d2, d3] }
  | _ => none }
def gridCoarseRow : OpenClaim := { program := "ytpjbniihdndlmab", sum := "5a50e9c786f95ee8e272ac823b2f35f4c2ede1fe7e549c4a9d61a8bccd7188ab", func := "cobweb/cobweblaw03.GridCoarse", spec := "gridCoarse", inPlace := ["math/bits.Add64", "math/bits.Sub64"], unfollowed := true, recurses := true, apart := false }
def GridCoarseSaid : Prop := gridCoarseRow.holds Try.pinned (OpenSpec.ofChange gridCoarseSpec)

/-- ITS FALSE NEIGHBOUR: 'it returns false'. Refute it at one input. -/
def gridCoarseWrong : ChangeSpec := { name := "gridCoarse", fn := fun _ => fun
  | [d1, d2, d3] => { results := [.lit (.bool false)], args := [d1, d2, d3] }
  | _ => none }
def GridCoarseWrongFalsely : Prop := gridCoarseRow.holds Try.pinned (OpenSpec.ofChange gridCoarseWrong)

/- THE SECOND FORM. 'bulk': how many values and letters a reading holds, each counted each time it is reached (what is shared counts as often as it is met; a slice's spare places count too). A statement '..UptoSaid' is the law's where the arguments, and the package variables that the reading takes, are together of bulk at most 1048576: NARROWER than '..Said'. Prove '..Said' where nothing that the law and all that it calls make is longer than what came in: it says more and counts as full. Else prove '..UptoSaid'. A law counts once. -/
mutual
def uptoBulk {H : Type} : DataW H → Nat
  | .lit (.string bytes) => bytes.length + 1
  | .lit _ => 1
  | .nil => 1
  | .ptr d => uptoBulk d + 1
  | .slice elems spare => uptoBulkAll elems + uptoBulkAll spare + 1
  | .agg parts => uptoBulkAll parts + 1
  | .iface _ d => uptoBulk d + 1
  | .map entries => uptoBulkEntries entries + 1
  | .held _ => 1
def uptoBulkAll {H : Type} : List (DataW H) → Nat
  | [] => 0
  | d :: r => uptoBulk d + uptoBulkAll r
def uptoBulkEntries {H : Type} : List (Lit × DataW H) → Nat
  | [] => 0
  | x :: r => uptoBulkEntry x + uptoBulkEntries r
def uptoBulkEntry {H : Type} : Lit × DataW H → Nat
  | (.string bytes, d) => bytes.length + uptoBulk d + 1
  | (_, d) => uptoBulk d + 1
 end
def uptoSmall : (H : Type) → List (DataW H) → Bool := fun _ ds => decide (uptoBulkAll ds ≤ 1048576)
def OpenSpec.upto (s : _root_.Go.ChangeSpec) : _root_.Go.OpenSpec := { _root_.Go.OpenSpec.ofChange s with cond := some uptoSmall }

/-- 'cobweblaw02.FracOrders', WHERE WHAT IT READS IS OF BULK AT MOST 1048576: true; the input reads as it did. -/
def fracOrdersUptoRow : OpenClaim := { program := "ytpjbniihdndlmab", sum := "5a50e9c786f95ee8e272ac823b2f35f4c2ede1fe7e549c4a9d61a8bccd7188ab", func := "cobweb/cobweblaw02.FracOrders", spec := "fracOrders", inPlace := ["math/bits.Add64", "math/bits.Sub64"], apart := false, narrowed := true }
def FracOrdersUptoSaid : Prop := fracOrdersUptoRow.holds Try.pinned (OpenSpec.upto fracOrdersSpec)

/-- 'cobweblaw02.FracFloors', WHERE WHAT IT READS IS OF BULK AT MOST 1048576: true; the input reads as it did. -/
def fracFloorsUptoRow : OpenClaim := { program := "ytpjbniihdndlmab", sum := "5a50e9c786f95ee8e272ac823b2f35f4c2ede1fe7e549c4a9d61a8bccd7188ab", func := "cobweb/cobweblaw02.FracFloors", spec := "fracFloors", inPlace := ["math/bits.Add64", "math/bits.Sub64"], apart := false, narrowed := true }
def FracFloorsUptoSaid : Prop := fracFloorsUptoRow.holds Try.pinned (OpenSpec.upto fracFloorsSpec)

/-- 'cobweblaw02.FracSnaps', WHERE WHAT IT READS IS OF BULK AT MOST 1048576: true; the input reads as it did. -/
def fracSnapsUptoRow : OpenClaim := { program := "ytpjbniihdndlmab", sum := "5a50e9c786f95ee8e272ac823b2f35f4c2ede1fe7e549c4a9d61a8bccd7188ab", func := "cobweb/cobweblaw02.FracSnaps", spec := "fracSnaps", inPlace := ["math/bits.Add64", "math/bits.Sub64"], apart := false, narrowed := true }
def FracSnapsUptoSaid : Prop := fracSnapsUptoRow.holds Try.pinned (OpenSpec.upto fracSnapsSpec)

/-- 'cobweblaw02.FracRises', WHERE WHAT IT READS IS OF BULK AT MOST 1048576: true; the input reads as it did. -/
def fracRisesUptoRow : OpenClaim := { program := "ytpjbniihdndlmab", sum := "5a50e9c786f95ee8e272ac823b2f35f4c2ede1fe7e549c4a9d61a8bccd7188ab", func := "cobweb/cobweblaw02.FracRises", spec := "fracRises", inPlace := ["math/bits.Add64", "math/bits.Sub64"], apart := false, narrowed := true }
def FracRisesUptoSaid : Prop := fracRisesUptoRow.holds Try.pinned (OpenSpec.upto fracRisesSpec)

/-- 'cobweblaw02.FracTurned', WHERE WHAT IT READS IS OF BULK AT MOST 1048576: true; the input reads as it did. -/
def fracTurnedUptoRow : OpenClaim := { program := "ytpjbniihdndlmab", sum := "5a50e9c786f95ee8e272ac823b2f35f4c2ede1fe7e549c4a9d61a8bccd7188ab", func := "cobweb/cobweblaw02.FracTurned", spec := "fracTurned", inPlace := ["math/bits.Add64", "math/bits.Sub64"], apart := false, narrowed := true }
def FracTurnedUptoSaid : Prop := fracTurnedUptoRow.holds Try.pinned (OpenSpec.upto fracTurnedSpec)

/-- 'cobweblaw03.GridSnaps', WHERE WHAT IT READS IS OF BULK AT MOST 1048576: true; the input reads as it did. -/
def gridSnapsUptoRow : OpenClaim := { program := "ytpjbniihdndlmab", sum := "5a50e9c786f95ee8e272ac823b2f35f4c2ede1fe7e549c4a9d61a8bccd7188ab", func := "cobweb/cobweblaw03.GridSnaps", spec := "gridSnaps", inPlace := ["math/bits.Add64", "math/bits.Sub64"], unfollowed := true, recurses := true, apart := false, narrowed := true }
def GridSnapsUptoSaid : Prop := gridSnapsUptoRow.holds Try.pinned (OpenSpec.upto gridSnapsSpec)

/-- 'cobweblaw03.GridAt', WHERE WHAT IT READS IS OF BULK AT MOST 1048576: true; the input reads as it did. -/
def gridAtUptoRow : OpenClaim := { program := "ytpjbniihdndlmab", sum := "5a50e9c786f95ee8e272ac823b2f35f4c2ede1fe7e549c4a9d61a8bccd7188ab", func := "cobweb/cobweblaw03.GridAt", spec := "gridAt", inPlace := ["math/bits.Add64", "math/bits.Sub64"], unfollowed := true, recurses := true, apart := false, narrowed := true }
def GridAtUptoSaid : Prop := gridAtUptoRow.holds Try.pinned (OpenSpec.upto gridAtSpec)

/-- 'cobweblaw03.GridCenters', WHERE WHAT IT READS IS OF BULK AT MOST 1048576: true; the input reads as it did. -/
def gridCentersUptoRow : OpenClaim := { program := "ytpjbniihdndlmab", sum := "5a50e9c786f95ee8e272ac823b2f35f4c2ede1fe7e549c4a9d61a8bccd7188ab", func := "cobweb/cobweblaw03.GridCenters", spec := "gridCenters", inPlace := ["math/bits.Add64", "math/bits.Sub64"], unfollowed := true, recurses := true, apart := false, narrowed := true }
def GridCentersUptoSaid : Prop := gridCentersUptoRow.holds Try.pinned (OpenSpec.upto gridCentersSpec)

/-- 'cobweblaw03.GridHolds', WHERE WHAT IT READS IS OF BULK AT MOST 1048576: true; the input reads as it did. -/
def gridHoldsUptoRow : OpenClaim := { program := "ytpjbniihdndlmab", sum := "5a50e9c786f95ee8e272ac823b2f35f4c2ede1fe7e549c4a9d61a8bccd7188ab", func := "cobweb/cobweblaw03.GridHolds", spec := "gridHolds", inPlace := ["math/bits.Add64", "math/bits.Sub64"], unfollowed := true, recurses := true, apart := false, narrowed := true }
def GridHoldsUptoSaid : Prop := gridHoldsUptoRow.holds Try.pinned (OpenSpec.upto gridHoldsSpec)

/-- 'cobweblaw03.GridOrders', WHERE WHAT IT READS IS OF BULK AT MOST 1048576: true; the input reads as it did. -/
def gridOrdersUptoRow : OpenClaim := { program := "ytpjbniihdndlmab", sum := "5a50e9c786f95ee8e272ac823b2f35f4c2ede1fe7e549c4a9d61a8bccd7188ab", func := "cobweb/cobweblaw03.GridOrders", spec := "gridOrders", inPlace := ["math/bits.Add64", "math/bits.Sub64"], unfollowed := true, recurses := true, apart := false, narrowed := true }
def GridOrdersUptoSaid : Prop := gridOrdersUptoRow.holds Try.pinned (OpenSpec.upto gridOrdersSpec)

/-- 'cobweblaw03.GridCoarse', WHERE WHAT IT READS IS OF BULK AT MOST 1048576: true; the input reads as it did. -/
def gridCoarseUptoRow : OpenClaim := { program := "ytpjbniihdndlmab", sum := "5a50e9c786f95ee8e272ac823b2f35f4c2ede1fe7e549c4a9d61a8bccd7188ab", func := "cobweb/cobweblaw03.GridCoarse", spec := "gridCoarse", inPlace := ["math/bits.Add64", "math/bits.Sub64"], unfollowed := true, recurses := true, apart := false, narrowed := true }
def GridCoarseUptoSaid : Prop := gridCoarseUptoRow.holds Try.pinned (OpenSpec.upto gridCoarseSpec)

end Rows
end Go.Proofs.Ytpjbniihdndlmab
