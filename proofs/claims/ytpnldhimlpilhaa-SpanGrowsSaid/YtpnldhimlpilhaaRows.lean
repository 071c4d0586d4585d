/-
  No cell of these rows narrows 'for every input' (looked for: loops, veiled, ifaces, maps, wideKeys, modest, calm, conditions, laid).
  DERIVED. THE GIVEN ROWS OF THIS SEAT. 13 by the template 'for every input the law returns true; each argument reads behind the call as it read before'; 0 by the template 'total and deterministic' (their statements: YtpnldhimlpilhaaTotals.lean).
  GIVEN WITH THE SEED: the statements are not yours to turn. If you find one false, say at which input.
  Laid BY PROGRAM, IN A SANDBOX (cutbox-rows.mjs): the forced cells as the released guide's own fill.sh prints them over the translation e28efd0823cb4082… (all of the seat's roots in one cut). By AI agents, Wed Nov 11 2026. No macro, syntax, notation, axiom, sorry.
-/
import Derived.Test.YtpnldhimlpilhaaChecked
import GoSem.Claim
import GoSem.ClaimJoined
import GoSem.ClaimMapViews
import Derived.JoinedTies
import Derived.KernelRfl
namespace Go.Proofs.Ytpnldhimlpilhaa
/- THE CELL 'sum', in the pinned program and in every row, IS THE sha256 OF THE DUMP (.gsa) THAT YtpnldhimlpilhaaProg.lean LOADS. Nothing in Lean hashes anything: it is a label: what it is worth is what the hold of that sum in a sandbox is worth. -/
noncomputable def Try.pinned : Pinned := { name := "ytpnldhimlpilhaa", sum := "e28efd0823cb4082e5d7f87041733e3a0ffc2a18f7b1d33c56edd1a1e97d9746", checked := Try.checked }
namespace Rows
def none {H : Type} : Left H := { results := [], args := [] }

/-- 'damasklaw04.ArithNames': WHATEVER THE INPUT: true; the input reads as it did. -/
def arithNamesSpec : ChangeSpec := { name := "arithNames", fn := fun _ => fun
  | [d1, d2, d3] => { results := [.lit (.bool true)], args := [d1, d2, d3] }
  | _ => none }
def arithNamesRow : OpenClaim := { program := "ytpnldhimlpilhaa", sum := "e28efd0823cb4082e5d7f87041733e3a0ffc2a18f7b1d33c56edd1a1e97d9746", func := "damask/damasklaw04.ArithNames", spec := "arithNames", apart := false }
def ArithNamesSaid : Prop := arithNamesRow.holds Try.pinned (OpenSpec.ofChange arithNamesSpec)

/-- ITS FALSE NEIGHBOUR: 'it returns false'. Refute it at one input. -/
def arithNamesWrong : ChangeSpec := { name := "arithNames", fn := fun _ => fun
  | [d1, d2, d3] => { results := [.lit (.bool false)], args := [d1, d2, d3] }
  | _ => none }
def ArithNamesWrongFalsely : Prop := arithNamesRow.holds Try.pinned (OpenSpec.ofChange arithNamesWrong)

/-- 'damasklaw04.ArithValues': WHATEVER THE INPUT: true; the input reads as it did. -/
def arithValuesSpec : ChangeSpec := { name := "arithValues", fn := fun _ => fun
  | [d1, d2, d3, d4] => { results := [.lit (.bool true)], args := [d1, d2, d3, d4] }
  | _ => none }
def arithValuesRow : OpenClaim := { program := "ytpnldhimlpilhaa", sum := "e28efd0823cb4082e5d7f87041733e3a0ffc2a18f7b1d33c56edd1a1e97d9746", func := "damask/damasklaw04.ArithValues", spec := "arithValues", apart := false }
def ArithValuesSaid : Prop := arithValuesRow.holds Try.pinned (OpenSpec.ofChange arithValuesSpec)

/-- ITS FALSE NEIGHBOUR: 'it returns false'. Refute it at one input. -/
def arithValuesWrong : ChangeSpec := { name := "arithValues", fn := fun _ => fun
  | [d1, d2, d3, d4] => { results := [.lit (.bool false)], args := [d1, d2, d3, d4] }
  | _ => none }
def ArithValuesWrongFalsely : Prop := arithValuesRow.holds Try.pinned (OpenSpec.ofChange arithValuesWrong)

/-- 'damasklaw04.ArithRing': WHATEVER THE INPUT: true; the input reads as it did. -/
def arithRingSpec : ChangeSpec := { name := "arithRing", fn := fun _ => fun
  | [d1, d2, d3] => { results := [.lit (.bool true)], args := [d1, d2, d3] }
  | _ => none }
def arithRingRow : OpenClaim := { program := "ytpnldhimlpilhaa", sum := "e28efd0823cb4082e5d7f87041733e3a0ffc2a18f7b1d33c56edd1a1e97d9746", func := "damask/damasklaw04.ArithRing", spec := "arithRing", apart := false }
def ArithRingSaid : Prop := arithRingRow.holds Try.pinned (OpenSpec.ofChange arithRingSpec)

/-- ITS FALSE NEIGHBOUR: 'it returns false'. Refute it at one input. -/
def arithRingWrong : ChangeSpec := { name := "arithRing", fn := fun _ => fun
  | [d1, d2, d3] => { results := [.lit (.bool false)], args := [d1, d2, d3] }
  | _ => none }
def ArithRingWrongFalsely : Prop := arithRingRow.holds Try.pinned (OpenSpec.ofChange arithRingWrong)

/-- 'damasklaw04.ArithShifts': WHATEVER THE INPUT: true; the input reads as it did. -/
def arithShiftsSpec : ChangeSpec := { name := "arithShifts", fn := fun _ => fun
  | [d1, d2] => { results := [.lit (.bool true)], args := [d1, d2] }
  | _ => none }
def arithShiftsRow : OpenClaim := { program := "ytpnldhimlpilhaa", sum := "e28efd0823cb4082e5d7f87041733e3a0ffc2a18f7b1d33c56edd1a1e97d9746", func := "damask/damasklaw04.ArithShifts", spec := "arithShifts", apart := false }
def ArithShiftsSaid : Prop := arithShiftsRow.holds Try.pinned (OpenSpec.ofChange arithShiftsSpec)

/-- ITS FALSE NEIGHBOUR: 'it returns false'. Refute it at one input. -/
def arithShiftsWrong : ChangeSpec := { name := "arithShifts", fn := fun _ => fun
  | [d1, d2] => { results := [.lit (.bool false)], args := [d1, d2] }
  | _ => none }
def ArithShiftsWrongFalsely : Prop := arithShiftsRow.holds Try.pinned (OpenSpec.ofChange arithShiftsWrong)

/-- 'damasklaw04.ArithBits': WHATEVER THE INPUT: true; the input reads as it did. -/
def arithBitsSpec : ChangeSpec := { name := "arithBits", fn := fun _ => fun
  | [d1, d2] => { results := [.lit (.bool true)], args := [d1, d2] }
  | _ => none }
def arithBitsRow : OpenClaim := { program := "ytpnldhimlpilhaa", sum := "e28efd0823cb4082e5d7f87041733e3a0ffc2a18f7b1d33c56edd1a1e97d9746", func := "damask/damasklaw04.ArithBits", spec := "arithBits", apart := false }
def ArithBitsSaid : Prop := arithBitsRow.holds Try.pinned (OpenSpec.ofChange arithBitsSpec)

/-- ITS FALSE NEIGHBOUR: 'it returns false'. Refute it at one input. -/
def arithBitsWrong : ChangeSpec := { name := "arithBits", fn := fun _ => fun
  | [d1, d2] => { results := [.lit (.bool false)], args := [d1, d2] }
  | _ => none }
def ArithBitsWrongFalsely : Prop := arithBitsRow.holds Try.pinned (OpenSpec.ofChange arithBitsWrong)

/-- 'damasklaw04.ArithOrder': WHATEVER THE INPUT: true; the input reads as it did. -/
def arithOrderSpec : ChangeSpec := { name := "arithOrder", fn := fun _ => fun
  | [d1, d2, d3] => { results := [.lit (.bool true)], args := [d1, d2, d3] }
  | _ => none }
def arithOrderRow : OpenClaim := { program := "ytpnldhimlpilhaa", sum := "e28efd0823cb4082e5d7f87041733e3a0ffc2a18f7b1d33c56edd1a1e97d9746", func := "damask/damasklaw04.ArithOrder", spec := "arithOrder", apart := false }
def ArithOrderSaid : Prop := arithOrderRow.holds Try.pinned (OpenSpec.ofChange arithOrderSpec)

/-- ITS FALSE NEIGHBOUR: 'it returns false'. Refute it at one input. -/
def arithOrderWrong : ChangeSpec := { name := "arithOrder", fn := fun _ => fun
  | [d1, d2, d3] => { results := [.lit (.bool false)], args := [d1, d2, d3] }
  | _ => none }
def ArithOrderWrongFalsely : Prop := arithOrderRow.holds Try.pinned (OpenSpec.ofChange arithOrderWrong)

/-- 'damasklaw04.ArithScaled': WHATEVER THE INPUT: true; the input reads as it did. -/
def arithScaledSpec : ChangeSpec := { name := "arithScaled", fn := fun _ => fun
  | [d1, d2, d3] => { results := [.lit (.bool true)], args := [d1, d2, d3] }
  | _ => none }
def arithScaledRow : OpenClaim := { program := "ytpnldhimlpilhaa", sum := "e28efd0823cb4082e5d7f87041733e3a0ffc2a18f7b1d33c56edd1a1e97d9746", func := "damask/damasklaw04.ArithScaled", spec := "arithScaled", apart := false }
def ArithScaledSaid : Prop := arithScaledRow.holds Try.pinned (OpenSpec.ofChange arithScaledSpec)

/-- ITS FALSE NEIGHBOUR: 'it returns false'. Refute it at one input. -/
def arithScaledWrong : ChangeSpec := { name := "arithScaled", fn := fun _ => fun
  | [d1, d2, d3] => { results := [.lit (.bool false)], args := [d1, d2, d3] }
  | _ => none }
def ArithScaledWrongFalsely : Prop := arithScaledRow.holds Try.pinned (OpenSpec.ofChange arithScaledWrong)

/-- 'damasklaw05.SpanOf': WHATEVER THE INPUT: true; the input reads as it did. -/
def spanOfSpec : ChangeSpec := { name := "spanOf", fn := fun _ => fun
  | [d] => { results := [.lit (.bool true)], args := [d] }
  | _ => none }
def spanOfRow : OpenClaim := { program := "ytpnldhimlpilhaa", sum := "e28efd0823cb4082e5d7f87041733e3a0ffc2a18f7b1d33c56edd1a1e97d9746", func := "damask/damasklaw05.SpanOf", spec := "spanOf", unfollowed := true, recurses := true, apart := false }
def SpanOfSaid : Prop := spanOfRow.holds Try.pinned (OpenSpec.ofChange spanOfSpec)

/-- ITS FALSE NEIGHBOUR: 'it returns false'. Refute it at one input. -/
def spanOfWrong : ChangeSpec := { name := "spanOf", fn := fun _ => fun
  | [d] => { results := [.lit (.bool false)], args := [d] }
  | _ => none }
def SpanOfWrongFalsely : Prop := spanOfRow.holds Try.pinned (OpenSpec.ofChange spanOfWrong)

/-- 'damasklaw05.SpanWords': WHATEVER THE INPUT: true; the input reads as it did. -/
def spanWordsSpec : ChangeSpec := { name := "spanWords", fn := fun _ => fun
  | [d1, d2, d3] => { results := [.lit (.bool true)], args := [d1, d2, d3] }
  | _ => none }
def spanWordsRow : OpenClaim := { program := "ytpnldhimlpilhaa", sum := "e28efd0823cb4082e5d7f87041733e3a0ffc2a18f7b1d33c56edd1a1e97d9746", func := "damask/damasklaw05.SpanWords", spec := "spanWords", unfollowed := true, recurses := true, apart := false }
def SpanWordsSaid : Prop := spanWordsRow.holds Try.pinned (OpenSpec.ofChange spanWordsSpec)

/-- ITS FALSE NEIGHBOUR: 'it returns false'. Refute it at one input. -/
def spanWordsWrong : ChangeSpec := { name := "spanWords", fn := fun _ => fun
  | [d1, d2, d3] => { results := [.lit (.bool false)], args := [d1, d2, d3] }
  | _ => none }
def SpanWordsWrongFalsely : Prop := spanWordsRow.holds Try.pinned (OpenSpec.ofChange spanWordsWrong)

/-- 'damasklaw05.SpanGrows': WHATEVER THE INPUT: true; the input reads as it did. -/
def spanGrowsSpec : ChangeSpec := { name := "spanGrows", fn := fun _ => fun
  | [d1, d2] => { results := [.lit (.bool true)], args := [d1, d2] }
  | _ => none }
def spanGrowsRow : OpenClaim := { program := "ytpnldhimlpilhaa", sum := "e28efd0823cb4082e5d7f87041733e3a0ffc2a18f7b1d33c56edd1a1e97d9746", func := "damask/damasklaw05.SpanGrows", spec := "spanGrows", unfollowed := true, recurses := true, apart := false }
def SpanGrowsSaid : Prop := spanGrowsRow.holds Try.pinned (OpenSpec.ofChange spanGrowsSpec)

/-- ITS FALSE NEIGHBOUR: 'it returns false'. Refute it at one input. -/
def spanGrowsWrong : ChangeSpec := { name := "spanGrows", fn := fun _ => fun
  | [d1, d2] => { results := [.lit (.bool false)], args := [d1, d2] }
  | _ => none }
def SpanGrowsWrongFalsely : Prop := spanGrowsRow.holds Try.pinned (OpenSpec.ofChange spanGrowsWrong)

/-- 'damasklaw05.SpanRefuses': WHATEVER THE INPUT: true; the input reads as it did. -/
def spanRefusesSpec : ChangeSpec := { name := "spanRefuses", fn := fun _ => fun
  | [d] => { results := [.lit (.bool true)], args := [d] }
  | _ => none }
def spanRefusesRow : OpenClaim := { program := "ytpnldhimlpilhaa", sum := "e28efd0823cb4082e5d7f87041733e3a0ffc2a18f7b1d33c56edd1a1e97d9746", func := "damask/damasklaw05.SpanRefuses", spec := "spanRefuses", unfollowed := true, recurses := true, apart := false }
def SpanRefusesSaid : Prop := spanRefusesRow.holds Try.pinned (OpenSpec.ofChange spanRefusesSpec)

/-- ITS FALSE NEIGHBOUR: 'it returns false'. Refute it at one input. -/
def spanRefusesWrong : ChangeSpec := { name := "spanRefuses", fn := fun _ => fun
  | [d] => { results := [.lit (.bool false)], args := [d] }
  | _ => none }
def SpanRefusesWrongFalsely : Prop := spanRefusesRow.holds Try.pinned (OpenSpec.ofChange spanRefusesWrong)

/-- 'damasklaw05.SpanHolds': WHATEVER THE INPUT: true; the input reads as it did. -/
def spanHoldsSpec : ChangeSpec := { name := "spanHolds", fn := fun _ => fun
  | [d1, d2] => { results := [.lit (.bool true)], args := [d1, d2] }
  | _ => none }
def spanHoldsRow : OpenClaim := { program := "ytpnldhimlpilhaa", sum := "e28efd0823cb4082e5d7f87041733e3a0ffc2a18f7b1d33c56edd1a1e97d9746", func := "damask/damasklaw05.SpanHolds", spec := "spanHolds", unfollowed := true, recurses := true, apart := false }
def SpanHoldsSaid : Prop := spanHoldsRow.holds Try.pinned (OpenSpec.ofChange spanHoldsSpec)

/-- ITS FALSE NEIGHBOUR: 'it returns false'. Refute it at one input. -/
def spanHoldsWrong : ChangeSpec := { name := "spanHolds", fn := fun _ => fun
  | [d1, d2] => { results := [.lit (.bool false)], args := [d1, d2] }
  | _ => none }
def SpanHoldsWrongFalsely : Prop := spanHoldsRow.holds Try.pinned (OpenSpec.ofChange spanHoldsWrong)

/-- 'damasklaw05.SpanEnds': WHATEVER THE INPUT: true; the input reads as it did. -/
def spanEndsSpec : ChangeSpec := { name := "spanEnds", fn := fun _ => fun
  | [d] => { results := [.lit (.bool true)], args := [d] }
  | _ => none }
def spanEndsRow : OpenClaim := { program := "ytpnldhimlpilhaa", sum := "e28efd0823cb4082e5d7f87041733e3a0ffc2a18f7b1d33c56edd1a1e97d9746", func := "damask/damasklaw05.SpanEnds", spec := "spanEnds", unfollowed := true, recurses := true, apart := false }
def SpanEndsSaid : Prop := spanEndsRow.holds Try.pinned (OpenSpec.ofChange spanEndsSpec)

/-- ITS FALSE NEIGHBOUR: 'it returns false'. Refute it at one input. -/
def spanEndsWrong : ChangeSpec := { name := "spanEnds", fn := fun _ => fun
  | [d] => { results := [.lit (.bool false)], args := [d] }
  | _ => none }
def SpanEndsWrongFalsely : Prop := spanEndsRow.holds Try.pinned (OpenSpec.ofChange spanEndsWrong)

/- THE SECOND FORM. 'bulk': how many values and letters a reading holds, each counted each time it is reached (what is shared counts as often as it is met; a slice's spare places count too). A statement '..UptoSaid' is the law's where the arguments, and the package variables that the reading takes, are together of bulk at most 1048576: NARROWER than '..Said'. Prove '..Said' where nothing that the law and all that it calls make is longer than what came in: it says more and counts as full. Else prove '..UptoSaid'. A law counts once. -/
mutual
def uptoBulk {H : Type} : DataW H → Nat
  | .lit (.string bytes) => bytes.length + 1
  | .lit _ => 1
  | .nil => 1
  | .ptr d => uptoBulk d + 1
  | .slice elems spare => uptoBulkAll elems + uptoBulkAll spare + 1
  | .agg parts => uptoBulkAll parts + 1
  | .iface _ d => uptoBulk d + 1
  | .map entries => uptoBulkEntries entries + 1
  | .held _ => 1
def uptoBulkAll {H : Type} : List (DataW H) → Nat
  | [] => 0
  | d :: r => uptoBulk d + uptoBulkAll r
def uptoBulkEntries {H : Type} : List (Lit × DataW H) → Nat
  | [] => 0
  | x :: r => uptoBulkEntry x + uptoBulkEntries r
def uptoBulkEntry {H : Type} : Lit × DataW H → Nat
  | (.string bytes, d) => bytes.length + uptoBulk d + 1
  | (_, d) => uptoBulk d + 1
 end
def uptoSmall : (H : Type) → List (DataW H) → Bool := fun _ ds => decide (uptoBulkAll ds ≤ 1048576)
def OpenSpec.upto (s : _root_.Go.ChangeSpec) : _root_.Go.OpenSpec := { _root_.Go.OpenSpec.ofChange s with cond := some uptoSmall }

/-- 'damasklaw04.ArithNames', WHERE WHAT IT READS IS OF BULK AT MOST 1048576: true; the input reads as it did. -/
def arithNamesUptoRow : OpenClaim := { program := "ytpnldhimlpilhaa", sum := "e28efd0823cb4082e5d7f87041733e3a0ffc2a18f7b1d33c56edd1a1e97d9746", func := "damask/damasklaw04.ArithNames", spec := "arithNames", apart := false, narrowed := true }
def ArithNamesUptoSaid : Prop := arithNamesUptoRow.holds Try.pinned (OpenSpec.upto arithNamesSpec)

/-- 'damasklaw04.ArithValues', WHERE WHAT IT READS IS OF BULK AT MOST 1048576: true; the input reads as it did. -/
def arithValuesUptoRow : OpenClaim := { program := "ytpnldhimlpilhaa", sum := "e28efd0823cb4082e5d7f87041733e3a0ffc2a18f7b1d33c56edd1a1e97d9746", func := "damask/damasklaw04.ArithValues", spec := "arithValues", apart := false, narrowed := true }
def ArithValuesUptoSaid : Prop := arithValuesUptoRow.holds Try.pinned (OpenSpec.upto arithValuesSpec)

/-- 'damasklaw04.ArithRing', WHERE WHAT IT READS IS OF BULK AT MOST 1048576: true; the input reads as it did. -/
def arithRingUptoRow : OpenClaim := { program := "ytpnldhimlpilhaa", sum := "e28efd0823cb4082e5d7f87041733e3a0ffc2a18f7b1d33c56edd1a1e97d9746", func := "damask/damasklaw04.ArithRing", spec := "arithRing", apart := false, narrowed := true }
def ArithRingUptoSaid : Prop := arithRingUptoRow.holds Try.pinned (OpenSpec.upto arithRingSpec)

/-- 'damasklaw04.ArithShifts', WHERE WHAT IT READS IS OF BULK AT MOST 1048576: true; the input reads as it did. -/
def arithShiftsUptoRow : OpenClaim := { program := "ytpnldhimlpilhaa", sum := "e28efd0823cb4082e5d7f87041733e3a0ffc2a18f7b1d33c56edd1a1e97d9746", func := "damask/damasklaw04.ArithShifts", spec := "arithShifts", apart := false, narrowed := true }
def ArithShiftsUptoSaid : Prop := arithShiftsUptoRow.holds Try.pinned (OpenSpec.upto arithShiftsSpec)

/-- 'damasklaw04.ArithBits', WHERE WHAT IT READS IS OF BULK AT MOST 1048576: true; the input reads as it did. -/
def arithBitsUptoRow : OpenClaim := { program := "ytpnldhimlpilhaa", sum := "e28efd0823cb4082e5d7f87041733e3a0ffc2a18f7b1d33c56edd1a1e97d9746", func := "damask/damasklaw04.ArithBits", spec := "arithBits", apart := false, narrowed := true }
def ArithBitsUptoSaid : Prop := arithBitsUptoRow.holds Try.pinned (OpenSpec.upto arithBitsSpec)

/-- 'damasklaw04.ArithOrder', WHERE WHAT IT READS IS OF BULK AT MOST 1048576: true; the input reads as it did. -/
def arithOrderUptoRow : OpenClaim := { program := "ytpnldhimlpilhaa", sum := "e28efd0823cb4082e5d7f87041733e3a0ffc2a18f7b1d33c56edd1a1e97d9746", func := "damask/damasklaw04.ArithOrder", spec := "arithOrder", apart := false, narrowed := true }
def ArithOrderUptoSaid : Prop := arithOrderUptoRow.holds Try.pinned (OpenSpec.upto arithOrderSpec)

/-- 'damasklaw04.ArithScaled', WHERE WHAT IT READS IS OF BULK AT MOST 1048576: true; the input reads as it did. -/
def arithScaledUptoRow : OpenClaim := { program := "ytpnldhimlpilhaa", sum := "e28efd0823cb4082e5d7f87041733e3a0ffc2a18f7b1d33c56edd1a1e97d9746", func := "damask/damasklaw04.ArithScaled", spec := "arithScaled", apart := false, narrowed := true }
def ArithScaledUptoSaid : Prop := arithScaledUptoRow.holds Try.pinned (OpenSpec.upto arithScaledSpec)

/-- 'damasklaw05.SpanOf', WHERE WHAT IT READS IS OF BULK AT MOST 1048576: true; the input reads as it did. -/
def spanOfUptoRow : OpenClaim := { program := "ytpnldhimlpilhaa", sum := "e28efd0823cb4082e5d7f87041733e3a0ffc2a18f7b1d33c56edd1a1e97d9746", func := "damask/damasklaw05.SpanOf", spec := "spanOf", unfollowed := true, recurses := true, apart := false, narrowed := true }
def SpanOfUptoSaid : Prop := spanOfUptoRow.holds Try.pinned (OpenSpec.upto spanOfSpec)

/-- 'damasklaw05.SpanWords', WHERE WHAT IT READS IS OF BULK AT MOST 1048576: true; the input reads as it did. -/
def spanWordsUptoRow : OpenClaim := { program := "ytpnldhimlpilhaa", sum := "e28efd0823cb4082e5d7f87041733e3a0ffc2a18f7b1d33c56edd1a1e97d9746", func := "damask/damasklaw05.SpanWords", spec := "spanWords", unfollowed := true, recurses := true, apart := false, narrowed := true }
def SpanWordsUptoSaid : Prop := spanWordsUptoRow.holds Try.pinned (OpenSpec.upto spanWordsSpec)

/-- 'damasklaw05.SpanGrows', WHERE WHAT IT READS IS OF BULK AT MOST 1048576: true; the input reads as it did. -/
def spanGrowsUptoRow : OpenClaim := { program := "ytpnldhimlpilhaa", sum := "e28efd0823cb4082e5d7f87041733e3a0ffc2a18f7b1d33c56edd1a1e97d9746", func := "damask/damasklaw05.SpanGrows", spec := "spanGrows", unfollowed := true, recurses := true, apart := false, narrowed := true }
def SpanGrowsUptoSaid : Prop := spanGrowsUptoRow.holds Try.pinned (OpenSpec.upto spanGrowsSpec)

/-- 'damasklaw05.SpanRefuses', WHERE WHAT IT READS IS OF BULK AT MOST 1048576: true; the input reads as it did. -/
def spanRefusesUptoRow : OpenClaim := { program := "ytpnldhimlpilhaa", sum := "e28efd0823cb4082e5d7f87041733e3a0ffc2a18f7b1d33c56edd1a1e97d9746", func := "damask/damasklaw05.SpanRefuses", spec := "spanRefuses", unfollowed := true, recurses := true, apart := false, narrowed := true }
def SpanRefusesUptoSaid : Prop := spanRefusesUptoRow.holds Try.pinned (OpenSpec.upto spanRefusesSpec)

/-- 'damasklaw05.SpanHolds', WHERE WHAT IT READS IS OF BULK AT MOST 1048576: true; the input reads as it did. -/
def spanHoldsUptoRow : OpenClaim := { program := "ytpnldhimlpilhaa", sum := "e28efd0823cb4082e5d7f87041733e3a0ffc2a18f7b1d33c56edd1a1e97d9746", func := "damask/damasklaw05.SpanHolds", spec := "spanHolds", unfollowed := true, recurses := true, apart := false, narrowed := true }
def SpanHoldsUptoSaid : Prop := spanHoldsUptoRow.holds Try.pinned (OpenSpec.upto spanHoldsSpec)

/-- 'damasklaw05.SpanEnds', WHERE WHAT IT READS IS OF BULK AT MOST 1048576: true; the input reads as it did. -/
def spanEndsUptoRow : OpenClaim := { program := "ytpnldhimlpilhaa", sum := "e28efd0823cb4082e5d7f87041733e3a0ffc2a18f7b1d33c56edd1a1e97d9746", func := "damask/damasklaw05.SpanEnds", spec := "spanEnds", unfollowed := true, recurses := true, apart := false, narrowed := true }
def SpanEndsUptoSaid : Prop := spanEndsUptoRow.holds Try.pinned (OpenSpec.upto spanEndsSpec)

end Rows
end Go.Proofs.Ytpnldhimlpilhaa
