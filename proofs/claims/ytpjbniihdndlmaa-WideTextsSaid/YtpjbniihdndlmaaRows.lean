/-
  No cell of these rows narrows 'for every input' (looked for: loops, veiled, ifaces, maps, wideKeys, modest, calm, conditions, laid).
  DERIVED. THE GIVEN ROWS OF THIS SEAT. 12 by the template 'for every input the law returns true; each argument reads behind the call as it read before'; 0 by the template 'total and deterministic' (their statements: YtpjbniihdndlmaaTotals.lean).
  GIVEN WITH THE SEED: the statements are not yours to turn. If you find one false, say at which input.
  Laid BY PROGRAM, IN A SANDBOX (cutbox-rows.mjs): the forced cells as the released guide's own fill.sh prints them over the translation 8f9cd913dd4bd30d… (all of the seat's roots in one cut). By AI agents, Wed Nov 11 2026. No macro, syntax, notation, axiom, sorry.
-/
import Derived.Test.YtpjbniihdndlmaaChecked
import GoSem.Claim
import GoSem.ClaimJoined
import GoSem.ClaimMapViews
import Derived.JoinedTies
import Derived.KernelRfl
namespace Go.Proofs.Ytpjbniihdndlmaa
/- THE CELL 'sum', in the pinned program and in every row, IS THE sha256 OF THE DUMP (.gsa) THAT YtpjbniihdndlmaaProg.lean LOADS. Nothing in Lean hashes anything: it is a label: what it is worth is what the hold of that sum in a sandbox is worth. -/
noncomputable def Try.pinned : Pinned := { name := "ytpjbniihdndlmaa", sum := "8f9cd913dd4bd30d06cfd67d5d3039d062fc749ff457c680b9d8cc10ff975372", checked := Try.checked }
namespace Rows
def none {H : Type} : Left H := { results := [], args := [] }

/-- 'cobweblaw01.WideMuls': WHATEVER THE INPUT: true; the input reads as it did. -/
def wideMulsSpec : ChangeSpec := { name := "wideMuls", fn := fun _ => fun
  | [d1, d2, d3] => { results := [.lit (.bool true)], args := [d1, d2, d3] }
  | _ => none }
def wideMulsRow : OpenClaim := { program := "ytpjbniihdndlmaa", sum := "8f9cd913dd4bd30d06cfd67d5d3039d062fc749ff457c680b9d8cc10ff975372", func := "cobweb/cobweblaw01.WideMuls", spec := "wideMuls", inPlace := ["math/bits.Add64", "math/bits.Sub64"], apart := false }
def WideMulsSaid : Prop := wideMulsRow.holds Try.pinned (OpenSpec.ofChange wideMulsSpec)

/-- ITS FALSE NEIGHBOUR: 'it returns false'. Refute it at one input. -/
def wideMulsWrong : ChangeSpec := { name := "wideMuls", fn := fun _ => fun
  | [d1, d2, d3] => { results := [.lit (.bool false)], args := [d1, d2, d3] }
  | _ => none }
def WideMulsWrongFalsely : Prop := wideMulsRow.holds Try.pinned (OpenSpec.ofChange wideMulsWrong)

/-- 'cobweblaw01.WideShifts': WHATEVER THE INPUT: true; the input reads as it did. -/
def wideShiftsSpec : ChangeSpec := { name := "wideShifts", fn := fun _ => fun
  | [d1, d2] => { results := [.lit (.bool true)], args := [d1, d2] }
  | _ => none }
def wideShiftsRow : OpenClaim := { program := "ytpjbniihdndlmaa", sum := "8f9cd913dd4bd30d06cfd67d5d3039d062fc749ff457c680b9d8cc10ff975372", func := "cobweb/cobweblaw01.WideShifts", spec := "wideShifts", inPlace := ["math/bits.Add64", "math/bits.Sub64"], apart := false }
def WideShiftsSaid : Prop := wideShiftsRow.holds Try.pinned (OpenSpec.ofChange wideShiftsSpec)

/-- ITS FALSE NEIGHBOUR: 'it returns false'. Refute it at one input. -/
def wideShiftsWrong : ChangeSpec := { name := "wideShifts", fn := fun _ => fun
  | [d1, d2] => { results := [.lit (.bool false)], args := [d1, d2] }
  | _ => none }
def WideShiftsWrongFalsely : Prop := wideShiftsRow.holds Try.pinned (OpenSpec.ofChange wideShiftsWrong)

/-- 'cobweblaw01.WideOrders': WHATEVER THE INPUT: true; the input reads as it did. -/
def wideOrdersSpec : ChangeSpec := { name := "wideOrders", fn := fun _ => fun
  | [d1, d2] => { results := [.lit (.bool true)], args := [d1, d2] }
  | _ => none }
def wideOrdersRow : OpenClaim := { program := "ytpjbniihdndlmaa", sum := "8f9cd913dd4bd30d06cfd67d5d3039d062fc749ff457c680b9d8cc10ff975372", func := "cobweb/cobweblaw01.WideOrders", spec := "wideOrders", inPlace := ["math/bits.Add64", "math/bits.Sub64"], apart := false }
def WideOrdersSaid : Prop := wideOrdersRow.holds Try.pinned (OpenSpec.ofChange wideOrdersSpec)

/-- ITS FALSE NEIGHBOUR: 'it returns false'. Refute it at one input. -/
def wideOrdersWrong : ChangeSpec := { name := "wideOrders", fn := fun _ => fun
  | [d1, d2] => { results := [.lit (.bool false)], args := [d1, d2] }
  | _ => none }
def WideOrdersWrongFalsely : Prop := wideOrdersRow.holds Try.pinned (OpenSpec.ofChange wideOrdersWrong)

/-- 'cobweblaw01.WideDivs': WHATEVER THE INPUT: true; the input reads as it did. -/
def wideDivsSpec : ChangeSpec := { name := "wideDivs", fn := fun _ => fun
  | [d1, d2] => { results := [.lit (.bool true)], args := [d1, d2] }
  | _ => none }
def wideDivsRow : OpenClaim := { program := "ytpjbniihdndlmaa", sum := "8f9cd913dd4bd30d06cfd67d5d3039d062fc749ff457c680b9d8cc10ff975372", func := "cobweb/cobweblaw01.WideDivs", spec := "wideDivs", inPlace := ["math/bits.Add64", "math/bits.Sub64"], apart := false }
def WideDivsSaid : Prop := wideDivsRow.holds Try.pinned (OpenSpec.ofChange wideDivsSpec)

/-- ITS FALSE NEIGHBOUR: 'it returns false'. Refute it at one input. -/
def wideDivsWrong : ChangeSpec := { name := "wideDivs", fn := fun _ => fun
  | [d1, d2] => { results := [.lit (.bool false)], args := [d1, d2] }
  | _ => none }
def WideDivsWrongFalsely : Prop := wideDivsRow.holds Try.pinned (OpenSpec.ofChange wideDivsWrong)

/-- 'cobweblaw01.WideSmall': WHATEVER THE INPUT: true; the input reads as it did. -/
def wideSmallSpec : ChangeSpec := { name := "wideSmall", fn := fun _ => fun
  | [d1, d2] => { results := [.lit (.bool true)], args := [d1, d2] }
  | _ => none }
def wideSmallRow : OpenClaim := { program := "ytpjbniihdndlmaa", sum := "8f9cd913dd4bd30d06cfd67d5d3039d062fc749ff457c680b9d8cc10ff975372", func := "cobweb/cobweblaw01.WideSmall", spec := "wideSmall", inPlace := ["math/bits.Add64", "math/bits.Sub64"], apart := false }
def WideSmallSaid : Prop := wideSmallRow.holds Try.pinned (OpenSpec.ofChange wideSmallSpec)

/-- ITS FALSE NEIGHBOUR: 'it returns false'. Refute it at one input. -/
def wideSmallWrong : ChangeSpec := { name := "wideSmall", fn := fun _ => fun
  | [d1, d2] => { results := [.lit (.bool false)], args := [d1, d2] }
  | _ => none }
def WideSmallWrongFalsely : Prop := wideSmallRow.holds Try.pinned (OpenSpec.ofChange wideSmallWrong)

/-- 'cobweblaw03.GridMoves': WHATEVER THE INPUT: true; the input reads as it did. -/
def gridMovesSpec : ChangeSpec := { name := "gridMoves", fn := fun _ => fun
  | [d1, d2, d3] => { results := [.lit (.bool true)], args := [d1, d2, d3] }
  | _ => none }
def gridMovesRow : OpenClaim := { program := "ytpjbniihdndlmaa", sum := "8f9cd913dd4bd30d06cfd67d5d3039d062fc749ff457c680b9d8cc10ff975372", func := "cobweb/cobweblaw03.GridMoves", spec := "gridMoves", inPlace := ["math/bits.Add64", "math/bits.Sub64"], unfollowed := true, recurses := true, apart := false }
def GridMovesSaid : Prop := gridMovesRow.holds Try.pinned (OpenSpec.ofChange gridMovesSpec)

/-- ITS FALSE NEIGHBOUR: 'it returns false'. Refute it at one input. -/
def gridMovesWrong : ChangeSpec := { name := "gridMoves", fn := fun _ => fun
  | [d1, d2, d3] => { results := [.lit (.bool false)], args := [d1, d2, d3] }
  | _ => none }
def GridMovesWrongFalsely : Prop := gridMovesRow.holds Try.pinned (OpenSpec.ofChange gridMovesWrong)

/-- 'cobweblaw01.WideTexts': WHATEVER THE INPUT: true; the input reads as it did. -/
def wideTextsSpec : ChangeSpec := { name := "wideTexts", fn := fun _ => fun
  | [d] => { results := [.lit (.bool true)], args := [d] }
  | _ => none }
def wideTextsRow : OpenClaim := { program := "ytpjbniihdndlmaa", sum := "8f9cd913dd4bd30d06cfd67d5d3039d062fc749ff457c680b9d8cc10ff975372", func := "cobweb/cobweblaw01.WideTexts", spec := "wideTexts", inPlace := ["math/bits.Add64", "math/bits.Sub64"], apart := false }
def WideTextsSaid : Prop := wideTextsRow.holds Try.pinned (OpenSpec.ofChange wideTextsSpec)

/-- ITS FALSE NEIGHBOUR: 'it returns false'. Refute it at one input. -/
def wideTextsWrong : ChangeSpec := { name := "wideTexts", fn := fun _ => fun
  | [d] => { results := [.lit (.bool false)], args := [d] }
  | _ => none }
def WideTextsWrongFalsely : Prop := wideTextsRow.holds Try.pinned (OpenSpec.ofChange wideTextsWrong)

/-- 'cobweblaw02.FracScales': WHATEVER THE INPUT: true; the input reads as it did. -/
def fracScalesSpec : ChangeSpec := { name := "fracScales", fn := fun _ => fun
  | [d1, d2, d3] => { results := [.lit (.bool true)], args := [d1, d2, d3] }
  | _ => none }
def fracScalesRow : OpenClaim := { program := "ytpjbniihdndlmaa", sum := "8f9cd913dd4bd30d06cfd67d5d3039d062fc749ff457c680b9d8cc10ff975372", func := "cobweb/cobweblaw02.FracScales", spec := "fracScales", inPlace := ["math/bits.Add64", "math/bits.Sub64"], apart := false }
def FracScalesSaid : Prop := fracScalesRow.holds Try.pinned (OpenSpec.ofChange fracScalesSpec)

/-- ITS FALSE NEIGHBOUR: 'it returns false'. Refute it at one input. -/
def fracScalesWrong : ChangeSpec := { name := "fracScales", fn := fun _ => fun
  | [d1, d2, d3] => { results := [.lit (.bool false)], args := [d1, d2, d3] }
  | _ => none }
def FracScalesWrongFalsely : Prop := fracScalesRow.holds Try.pinned (OpenSpec.ofChange fracScalesWrong)

/-- 'cobweblaw01.WideScales': WHATEVER THE INPUT: true; the input reads as it did. -/
def wideScalesSpec : ChangeSpec := { name := "wideScales", fn := fun _ => fun
  | [d1, d2, d3] => { results := [.lit (.bool true)], args := [d1, d2, d3] }
  | _ => none }
def wideScalesRow : OpenClaim := { program := "ytpjbniihdndlmaa", sum := "8f9cd913dd4bd30d06cfd67d5d3039d062fc749ff457c680b9d8cc10ff975372", func := "cobweb/cobweblaw01.WideScales", spec := "wideScales", inPlace := ["math/bits.Add64", "math/bits.Sub64"], apart := false }
def WideScalesSaid : Prop := wideScalesRow.holds Try.pinned (OpenSpec.ofChange wideScalesSpec)

/-- ITS FALSE NEIGHBOUR: 'it returns false'. Refute it at one input. -/
def wideScalesWrong : ChangeSpec := { name := "wideScales", fn := fun _ => fun
  | [d1, d2, d3] => { results := [.lit (.bool false)], args := [d1, d2, d3] }
  | _ => none }
def WideScalesWrongFalsely : Prop := wideScalesRow.holds Try.pinned (OpenSpec.ofChange wideScalesWrong)

/-- 'cobweblaw01.WideAdds': WHATEVER THE INPUT: true; the input reads as it did. -/
def wideAddsSpec : ChangeSpec := { name := "wideAdds", fn := fun _ => fun
  | [d1, d2] => { results := [.lit (.bool true)], args := [d1, d2] }
  | _ => none }
def wideAddsRow : OpenClaim := { program := "ytpjbniihdndlmaa", sum := "8f9cd913dd4bd30d06cfd67d5d3039d062fc749ff457c680b9d8cc10ff975372", func := "cobweb/cobweblaw01.WideAdds", spec := "wideAdds", inPlace := ["math/bits.Add64", "math/bits.Sub64"], apart := false }
def WideAddsSaid : Prop := wideAddsRow.holds Try.pinned (OpenSpec.ofChange wideAddsSpec)

/-- ITS FALSE NEIGHBOUR: 'it returns false'. Refute it at one input. -/
def wideAddsWrong : ChangeSpec := { name := "wideAdds", fn := fun _ => fun
  | [d1, d2] => { results := [.lit (.bool false)], args := [d1, d2] }
  | _ => none }
def WideAddsWrongFalsely : Prop := wideAddsRow.holds Try.pinned (OpenSpec.ofChange wideAddsWrong)

/-- 'cobweblaw01.WideBack': WHATEVER THE INPUT: true; the input reads as it did. -/
def wideBackSpec : ChangeSpec := { name := "wideBack", fn := fun _ => fun
  | [d1, d2] => { results := [.lit (.bool true)], args := [d1, d2] }
  | _ => none }
def wideBackRow : OpenClaim := { program := "ytpjbniihdndlmaa", sum := "8f9cd913dd4bd30d06cfd67d5d3039d062fc749ff457c680b9d8cc10ff975372", func := "cobweb/cobweblaw01.WideBack", spec := "wideBack", inPlace := ["math/bits.Add64", "math/bits.Sub64"], apart := false }
def WideBackSaid : Prop := wideBackRow.holds Try.pinned (OpenSpec.ofChange wideBackSpec)

/-- ITS FALSE NEIGHBOUR: 'it returns false'. Refute it at one input. -/
def wideBackWrong : ChangeSpec := { name := "wideBack", fn := fun _ => fun
  | [d1, d2] => { results := [.lit (.bool false)], args := [d1, d2] }
  | _ => none }
def WideBackWrongFalsely : Prop := wideBackRow.holds Try.pinned (OpenSpec.ofChange wideBackWrong)

/-- 'cobweblaw02.FracMakes': WHATEVER THE INPUT: true; the input reads as it did. -/
def fracMakesSpec : ChangeSpec := { name := "fracMakes", fn := fun _ => fun
  | [d1, d2, d3] => { results := [.lit (.bool true)], args := [d1, d2, d3] }
  | _ => none }
def fracMakesRow : OpenClaim := { program := "ytpjbniihdndlmaa", sum := "8f9cd913dd4bd30d06cfd67d5d3039d062fc749ff457c680b9d8cc10ff975372", func := "cobweb/cobweblaw02.FracMakes", spec := "fracMakes", inPlace := ["math/bits.Add64", "math/bits.Sub64"], apart := false }
def FracMakesSaid : Prop := fracMakesRow.holds Try.pinned (OpenSpec.ofChange fracMakesSpec)

/-- ITS FALSE NEIGHBOUR: 'it returns false'. Refute it at one input. -/
def fracMakesWrong : ChangeSpec := { name := "fracMakes", fn := fun _ => fun
  | [d1, d2, d3] => { results := [.lit (.bool false)], args := [d1, d2, d3] }
  | _ => none }
def FracMakesWrongFalsely : Prop := fracMakesRow.holds Try.pinned (OpenSpec.ofChange fracMakesWrong)

/- THE SECOND FORM. 'bulk': how many values and letters a reading holds, each counted each time it is reached (what is shared counts as often as it is met; a slice's spare places count too). A statement '..UptoSaid' is the law's where the arguments, and the package variables that the reading takes, are together of bulk at most 1048576: NARROWER than '..Said'. Prove '..Said' where nothing that the law and all that it calls make is longer than what came in: it says more and counts as full. Else prove '..UptoSaid'. A law counts once. -/
mutual
def uptoBulk {H : Type} : DataW H → Nat
  | .lit (.string bytes) => bytes.length + 1
  | .lit _ => 1
  | .nil => 1
  | .ptr d => uptoBulk d + 1
  | .slice elems spare => uptoBulkAll elems + uptoBulkAll spare + 1
  | .agg parts => uptoBulkAll parts + 1
  | .iface _ d => uptoBulk d + 1
  | .map entries => uptoBulkEntries entries + 1
  | .held _ => 1
def uptoBulkAll {H : Type} : List (DataW H) → Nat
  | [] => 0
  | d :: r => uptoBulk d + uptoBulkAll r
def uptoBulkEntries {H : Type} : List (Lit × DataW H) → Nat
  | [] => 0
  | x :: r => uptoBulkEntry x + uptoBulkEntries r
def uptoBulkEntry {H : Type} : Lit × DataW H → Nat
  | (.string bytes, d) => bytes.length + uptoBulk d + 1
  | (_, d) => uptoBulk d + 1
 end
def uptoSmall : (H : Type) → List (DataW H) → Bool := fun _ ds => decide (uptoBulkAll ds ≤ 1048576)
def OpenSpec.upto (s : _root_.Go.ChangeSpec) : _root_.Go.OpenSpec := { _root_.Go.OpenSpec.ofChange s with cond := some uptoSmall }

/-- 'cobweblaw01.WideMuls', WHERE WHAT IT READS IS OF BULK AT MOST 1048576: true; the input reads as it did. -/
def wideMulsUptoRow : OpenClaim := { program := "ytpjbniihdndlmaa", sum := "8f9cd913dd4bd30d06cfd67d5d3039d062fc749ff457c680b9d8cc10ff975372", func := "cobweb/cobweblaw01.WideMuls", spec := "wideMuls", inPlace := ["math/bits.Add64", "math/bits.Sub64"], apart := false, narrowed := true }
def WideMulsUptoSaid : Prop := wideMulsUptoRow.holds Try.pinned (OpenSpec.upto wideMulsSpec)

/-- 'cobweblaw01.WideShifts', WHERE WHAT IT READS IS OF BULK AT MOST 1048576: true; the input reads as it did. -/
def wideShiftsUptoRow : OpenClaim := { program := "ytpjbniihdndlmaa", sum := "8f9cd913dd4bd30d06cfd67d5d3039d062fc749ff457c680b9d8cc10ff975372", func := "cobweb/cobweblaw01.WideShifts", spec := "wideShifts", inPlace := ["math/bits.Add64", "math/bits.Sub64"], apart := false, narrowed := true }
def WideShiftsUptoSaid : Prop := wideShiftsUptoRow.holds Try.pinned (OpenSpec.upto wideShiftsSpec)

/-- 'cobweblaw01.WideOrders', WHERE WHAT IT READS IS OF BULK AT MOST 1048576: true; the input reads as it did. -/
def wideOrdersUptoRow : OpenClaim := { program := "ytpjbniihdndlmaa", sum := "8f9cd913dd4bd30d06cfd67d5d3039d062fc749ff457c680b9d8cc10ff975372", func := "cobweb/cobweblaw01.WideOrders", spec := "wideOrders", inPlace := ["math/bits.Add64", "math/bits.Sub64"], apart := false, narrowed := true }
def WideOrdersUptoSaid : Prop := wideOrdersUptoRow.holds Try.pinned (OpenSpec.upto wideOrdersSpec)

/-- 'cobweblaw01.WideDivs', WHERE WHAT IT READS IS OF BULK AT MOST 1048576: true; the input reads as it did. -/
def wideDivsUptoRow : OpenClaim := { program := "ytpjbniihdndlmaa", sum := "8f9cd913dd4bd30d06cfd67d5d3039d062fc749ff457c680b9d8cc10ff975372", func := "cobweb/cobweblaw01.WideDivs", spec := "wideDivs", inPlace := ["math/bits.Add64", "math/bits.Sub64"], apart := false, narrowed := true }
def WideDivsUptoSaid : Prop := wideDivsUptoRow.holds Try.pinned (OpenSpec.upto wideDivsSpec)

/-- 'cobweblaw01.WideSmall', WHERE WHAT IT READS IS OF BULK AT MOST 1048576: true; the input reads as it did. -/
def wideSmallUptoRow : OpenClaim := { program := "ytpjbniihdndlmaa", sum := "8f9cd913dd4bd30d06cfd67d5d3039d062fc749ff457c680b9d8cc10ff975372", func := "cobweb/cobweblaw01.WideSmall", spec := "wideSmall", inPlace := ["math/bits.Add64", "math/bits.Sub64"], apart := false, narrowed := true }
def WideSmallUptoSaid : Prop := wideSmallUptoRow.holds Try.pinned (OpenSpec.upto wideSmallSpec)

/-- 'cobweblaw03.GridMoves', WHERE WHAT IT READS IS OF BULK AT MOST 1048576: true; the input reads as it did. -/
def gridMovesUptoRow : OpenClaim := { program := "ytpjbniihdndlmaa", sum := "8f9cd913dd4bd30d06cfd67d5d3039d062fc749ff457c680b9d8cc10ff975372", func := "cobweb/cobweblaw03.GridMoves", spec := "gridMoves", inPlace := ["math/bits.Add64", "math/bits.Sub64"], unfollowed := true, recurses := true, apart := false, narrowed := true }
def GridMovesUptoSaid : Prop := gridMovesUptoRow.holds Try.pinned (OpenSpec.upto gridMovesSpec)

/-- 'cobweblaw01.WideTexts', WHERE WHAT IT READS IS OF BULK AT MOST 1048576: true; the input reads as it did. -/
def wideTextsUptoRow : OpenClaim := { program := "ytpjbniihdndlmaa", sum := "8f9cd913dd4bd30d06cfd67d5d3039d062fc749ff457c680b9d8cc10ff975372", func := "cobweb/cobweblaw01.WideTexts", spec := "wideTexts", inPlace := ["math/bits.Add64", "math/bits.Sub64"], apart := false, narrowed := true }
def WideTextsUptoSaid : Prop := wideTextsUptoRow.holds Try.pinned (OpenSpec.upto wideTextsSpec)

/-- 'cobweblaw02.FracScales', WHERE WHAT IT READS IS OF BULK AT MOST 1048576: true; the input reads as it did. -/
def fracScalesUptoRow : OpenClaim := { program := "ytpjbniihdndlmaa", sum := "8f9cd913dd4bd30d06cfd67d5d3039d062fc749ff457c680b9d8cc10ff975372", func := "cobweb/cobweblaw02.FracScales", spec := "fracScales", inPlace := ["math/bits.Add64", "math/bits.Sub64"], apart := false, narrowed := true }
def FracScalesUptoSaid : Prop := fracScalesUptoRow.holds Try.pinned (OpenSpec.upto fracScalesSpec)

/-- 'cobweblaw01.WideScales', WHERE WHAT IT READS IS OF BULK AT MOST 1048576: true; the input reads as it did. -/
def wideScalesUptoRow : OpenClaim := { program := "ytpjbniihdndlmaa", sum := "8f9cd913dd4bd30d06cfd67d5d3039d062fc749ff457c680b9d8cc10ff975372", func := "cobweb/cobweblaw01.WideScales", spec := "wideScales", inPlace := ["math/bits.Add64", "math/bits.Sub64"], apart := false, narrowed := true }
def WideScalesUptoSaid : Prop := wideScalesUptoRow.holds Try.pinned (OpenSpec.upto wideScalesSpec)

/-- 'cobweblaw01.WideAdds', WHERE WHAT IT READS IS OF BULK AT MOST 1048576: true; the input reads as it did. -/
def wideAddsUptoRow : OpenClaim := { program := "ytpjbniihdndlmaa", sum := "8f9cd913dd4bd30d06cfd67d5d3039d062fc749ff457c680b9d8cc10ff975372", func := "cobweb/cobweblaw01.WideAdds", spec := "wideAdds", inPlace := ["math/bits.Add64", "math/bits.Sub64"], apart := false, narrowed := true }
def WideAddsUptoSaid : Prop := wideAddsUptoRow.holds Try.pinned (OpenSpec.upto wideAddsSpec)

/-- 'cobweblaw01.WideBack', WHERE WHAT IT READS IS OF BULK AT MOST 1048576: true; the input reads as it did. -/
def wideBackUptoRow : OpenClaim := { program := "ytpjbniihdndlmaa", sum := "8f9cd913dd4bd30d06cfd67d5d3039d062fc749ff457c680b9d8cc10ff975372", func := "cobweb/cobweblaw01.WideBack", spec := "wideBack", inPlace := ["math/bits.Add64", "math/bits.Sub64"], apart := false, narrowed := true }
def WideBackUptoSaid : Prop := wideBackUptoRow.holds Try.pinned (OpenSpec.upto wideBackSpec)

/-- 'cobweblaw02.FracMakes', WHERE WHAT IT READS IS OF BULK AT MOST 1048576: true; the input reads as it did. -/
def fracMakesUptoRow : OpenClaim := { program := "ytpjbniihdndlmaa", sum := "8f9cd913dd4bd30d06cfd67d5d3039d062fc749ff457c680b9d8cc10ff975372", func := "cobweb/cobweblaw02.FracMakes", spec := "fracMakes", inPlace := ["math/bits.Add64", "math/bits.Sub64"], apart := false, narrowed := true }
def FracMakesUptoSaid : Prop := fracMakesUptoRow.holds Try.pinned (OpenSpec.upto fracMakesSpec)

end Rows
end Go.Proofs.Ytpjbniihdndlmaa
