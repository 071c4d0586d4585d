/-
  No cell of these rows narrows 'for every input' (looked for: loops, veiled, ifaces, maps, wideKeys, modest, calm, conditions, laid).
  DERIVED. THE GIVEN ROWS OF THIS SEAT. 14 by the template 'for every input the law returns true; each argument reads behind the call as it read before'; 0 by the template 'total and deterministic' (their statements: YtggfgbhodkfllaaTotals.lean).
  GIVEN WITH THE SEED: the statements are not yours to turn. If you find one false, say at which input.
  Laid BY PROGRAM, IN A SANDBOX (cutbox-rows.mjs): the forced cells as the released guide's own fill.sh prints them over the translation 5e4c14a2b839a874… (all of the seat's roots in one cut). By AI agents, Wed Nov 11 2026. No macro, syntax, notation, axiom, sorry.
-/
import Derived.Test.YtggfgbhodkfllaaChecked
import GoSem.Claim
import GoSem.ClaimJoined
import GoSem.ClaimMapViews
import Derived.JoinedTies
import Derived.KernelRfl
namespace Go.Proofs.Ytggfgbhodkfllaa
/- THE CELL 'sum', in the pinned program and in every row, IS THE sha256 OF THE DUMP (.gsa) THAT YtggfgbhodkfllaaProg.lean LOADS. Nothing in Lean hashes anything: it is a label: what it is worth is what the hold of that sum in a sandbox is worth. -/
noncomputable def Try.pinned : Pinned := { name := "ytggfgbhodkfllaa", sum := "5e4c14a2b839a8745691c73d6fd83145837b648f4812cb62e94cc05a6bba5d32", checked := Try.checked }
namespace Rows
def none {H : Type} : Left H := { results := [], args := [] }

/-- 'damasklaw23.SignalPlaces': WHATEVER THE INPUT: true; the input reads as it did. -/
def signalPlacesSpec : ChangeSpec := { name := "signalPlaces", fn := fun _ => fun
  | [d1, d2, d3] => { results := [.lit (.bool true)], args := [d1, d2, d3] }
  | _ => none }
def signalPlacesRow : OpenClaim := { program := "ytggfgbhodkfllaa", sum := "5e4c14a2b839a8745691c73d6fd83145837b648f4812cb62e94cc05a6bba5d32", func := "damask/damasklaw23.SignalPlaces", spec := "signalPlaces", plainKeys := false, apart := false }
def SignalPlacesSaid : Prop := signalPlacesRow.holds Try.pinned (OpenSpec.ofChange signalPlacesSpec)

/-- ITS FALSE NEIGHBOUR: 'it returns false'. Refute it at one input. -/
def signalPlacesWrong : ChangeSpec := { name := "signalPlaces", fn := fun _ => fun
  | [d1, d2, d3] => { results := [.lit (.bool false)], args := [d1, d2, d3] }
  | _ => none }
def SignalPlacesWrongFalsely : Prop := signalPlacesRow.holds Try.pinned (OpenSpec.ofChange signalPlacesWrong)

/-- 'damasklaw23.SignalRound': WHATEVER THE INPUT: true; the input reads as it did. -/
def signalRoundSpec : ChangeSpec := { name := "signalRound", fn := fun _ => fun
  | [d1, d2, d3] => { results := [.lit (.bool true)], args := [d1, d2, d3] }
  | _ => none }
def signalRoundRow : OpenClaim := { program := "ytggfgbhodkfllaa", sum := "5e4c14a2b839a8745691c73d6fd83145837b648f4812cb62e94cc05a6bba5d32", func := "damask/damasklaw23.SignalRound", spec := "signalRound", plainKeys := false, apart := false }
def SignalRoundSaid : Prop := signalRoundRow.holds Try.pinned (OpenSpec.ofChange signalRoundSpec)

/-- ITS FALSE NEIGHBOUR: 'it returns false'. Refute it at one input. -/
def signalRoundWrong : ChangeSpec := { name := "signalRound", fn := fun _ => fun
  | [d1, d2, d3] => { results := [.lit (.bool false)], args := [d1, d2, d3] }
  | _ => none }
def SignalRoundWrongFalsely : Prop := signalRoundRow.holds Try.pinned (OpenSpec.ofChange signalRoundWrong)

/-- 'damasklaw03.KindBounds': WHATEVER THE INPUT: true; the input reads as it did. -/
def kindBoundsSpec : ChangeSpec := { name := "kindBounds", fn := fun _ => fun
  | [d] => { results := [.lit (.bool true)], args := [d] }
  | _ => none }
def kindBoundsRow : OpenClaim := { program := "ytggfgbhodkfllaa", sum := "5e4c14a2b839a8745691c73d6fd83145837b648f4812cb62e94cc05a6bba5d32", func := "damask/damasklaw03.KindBounds", spec := "kindBounds", unfollowed := true, recurses := true, plainKeys := false, apart := false }
def KindBoundsSaid : Prop := kindBoundsRow.holds Try.pinned (OpenSpec.ofChange kindBoundsSpec)

/-- ITS FALSE NEIGHBOUR: 'it returns false'. Refute it at one input. -/
def kindBoundsWrong : ChangeSpec := { name := "kindBounds", fn := fun _ => fun
  | [d] => { results := [.lit (.bool false)], args := [d] }
  | _ => none }
def KindBoundsWrongFalsely : Prop := kindBoundsRow.holds Try.pinned (OpenSpec.ofChange kindBoundsWrong)

/-- 'damasklaw03.KindPlaces': WHATEVER THE INPUT: true; the input reads as it did. -/
def kindPlacesSpec : ChangeSpec := { name := "kindPlaces", fn := fun _ => fun
  | [d1, d2, d3] => { results := [.lit (.bool true)], args := [d1, d2, d3] }
  | _ => none }
def kindPlacesRow : OpenClaim := { program := "ytggfgbhodkfllaa", sum := "5e4c14a2b839a8745691c73d6fd83145837b648f4812cb62e94cc05a6bba5d32", func := "damask/damasklaw03.KindPlaces", spec := "kindPlaces", unfollowed := true, recurses := true, plainKeys := false, apart := false }
def KindPlacesSaid : Prop := kindPlacesRow.holds Try.pinned (OpenSpec.ofChange kindPlacesSpec)

/-- ITS FALSE NEIGHBOUR: 'it returns false'. Refute it at one input. -/
def kindPlacesWrong : ChangeSpec := { name := "kindPlaces", fn := fun _ => fun
  | [d1, d2, d3] => { results := [.lit (.bool false)], args := [d1, d2, d3] }
  | _ => none }
def KindPlacesWrongFalsely : Prop := kindPlacesRow.holds Try.pinned (OpenSpec.ofChange kindPlacesWrong)

/-- 'damasklaw03.KindCausal': WHATEVER THE INPUT: true; the input reads as it did. -/
def kindCausalSpec : ChangeSpec := { name := "kindCausal", fn := fun _ => fun
  | [d1, d2] => { results := [.lit (.bool true)], args := [d1, d2] }
  | _ => none }
def kindCausalRow : OpenClaim := { program := "ytggfgbhodkfllaa", sum := "5e4c14a2b839a8745691c73d6fd83145837b648f4812cb62e94cc05a6bba5d32", func := "damask/damasklaw03.KindCausal", spec := "kindCausal", unfollowed := true, recurses := true, plainKeys := false, apart := false }
def KindCausalSaid : Prop := kindCausalRow.holds Try.pinned (OpenSpec.ofChange kindCausalSpec)

/-- ITS FALSE NEIGHBOUR: 'it returns false'. Refute it at one input. -/
def kindCausalWrong : ChangeSpec := { name := "kindCausal", fn := fun _ => fun
  | [d1, d2] => { results := [.lit (.bool false)], args := [d1, d2] }
  | _ => none }
def KindCausalWrongFalsely : Prop := kindCausalRow.holds Try.pinned (OpenSpec.ofChange kindCausalWrong)

/-- 'damasklaw23.SignalShapes': WHATEVER THE INPUT: true; the input reads as it did. -/
def signalShapesSpec : ChangeSpec := { name := "signalShapes", fn := fun _ => fun
  | [d1, d2] => { results := [.lit (.bool true)], args := [d1, d2] }
  | _ => none }
def signalShapesRow : OpenClaim := { program := "ytggfgbhodkfllaa", sum := "5e4c14a2b839a8745691c73d6fd83145837b648f4812cb62e94cc05a6bba5d32", func := "damask/damasklaw23.SignalShapes", spec := "signalShapes", plainKeys := false, apart := false }
def SignalShapesSaid : Prop := signalShapesRow.holds Try.pinned (OpenSpec.ofChange signalShapesSpec)

/-- ITS FALSE NEIGHBOUR: 'it returns false'. Refute it at one input. -/
def signalShapesWrong : ChangeSpec := { name := "signalShapes", fn := fun _ => fun
  | [d1, d2] => { results := [.lit (.bool false)], args := [d1, d2] }
  | _ => none }
def SignalShapesWrongFalsely : Prop := signalShapesRow.holds Try.pinned (OpenSpec.ofChange signalShapesWrong)

/-- 'damasklaw23.SignalNew': WHATEVER THE INPUT: true; the input reads as it did. -/
def signalNewSpec : ChangeSpec := { name := "signalNew", fn := fun _ => fun
  | [d1, d2, d3, d4, d5] => { results := [.lit (.bool true)], args := [d1, d2, d3, d4, d5] }
  | _ => none }
def signalNewRow : OpenClaim := { program := "ytggfgbhodkfllaa", sum := "5e4c14a2b839a8745691c73d6fd83145837b648f4812cb62e94cc05a6bba5d32", func := "damask/damasklaw23.SignalNew", spec := "signalNew", plainKeys := false, apart := false }
def SignalNewSaid : Prop := signalNewRow.holds Try.pinned (OpenSpec.ofChange signalNewSpec)

/-- ITS FALSE NEIGHBOUR: 'it returns false'. Refute it at one input. -/
def signalNewWrong : ChangeSpec := { name := "signalNew", fn := fun _ => fun
  | [d1, d2, d3, d4, d5] => { results := [.lit (.bool false)], args := [d1, d2, d3, d4, d5] }
  | _ => none }
def SignalNewWrongFalsely : Prop := signalNewRow.holds Try.pinned (OpenSpec.ofChange signalNewWrong)

/-- 'damasklaw03.KindInputs': WHATEVER THE INPUT: true; the input reads as it did. -/
def kindInputsSpec : ChangeSpec := { name := "kindInputs", fn := fun _ => fun
  | [d1, d2] => { results := [.lit (.bool true)], args := [d1, d2] }
  | _ => none }
def kindInputsRow : OpenClaim := { program := "ytggfgbhodkfllaa", sum := "5e4c14a2b839a8745691c73d6fd83145837b648f4812cb62e94cc05a6bba5d32", func := "damask/damasklaw03.KindInputs", spec := "kindInputs", unfollowed := true, recurses := true, plainKeys := false, apart := false }
def KindInputsSaid : Prop := kindInputsRow.holds Try.pinned (OpenSpec.ofChange kindInputsSpec)

/-- ITS FALSE NEIGHBOUR: 'it returns false'. Refute it at one input. -/
def kindInputsWrong : ChangeSpec := { name := "kindInputs", fn := fun _ => fun
  | [d1, d2] => { results := [.lit (.bool false)], args := [d1, d2] }
  | _ => none }
def KindInputsWrongFalsely : Prop := kindInputsRow.holds Try.pinned (OpenSpec.ofChange kindInputsWrong)

/-- 'damasklaw03.KindFits': WHATEVER THE INPUT: true; the input reads as it did. -/
def kindFitsSpec : ChangeSpec := { name := "kindFits", fn := fun _ => fun
  | [d1, d2] => { results := [.lit (.bool true)], args := [d1, d2] }
  | _ => none }
def kindFitsRow : OpenClaim := { program := "ytggfgbhodkfllaa", sum := "5e4c14a2b839a8745691c73d6fd83145837b648f4812cb62e94cc05a6bba5d32", func := "damask/damasklaw03.KindFits", spec := "kindFits", unfollowed := true, recurses := true, plainKeys := false, apart := false }
def KindFitsSaid : Prop := kindFitsRow.holds Try.pinned (OpenSpec.ofChange kindFitsSpec)

/-- ITS FALSE NEIGHBOUR: 'it returns false'. Refute it at one input. -/
def kindFitsWrong : ChangeSpec := { name := "kindFits", fn := fun _ => fun
  | [d1, d2] => { results := [.lit (.bool false)], args := [d1, d2] }
  | _ => none }
def KindFitsWrongFalsely : Prop := kindFitsRow.holds Try.pinned (OpenSpec.ofChange kindFitsWrong)

/-- 'damasklaw03.KindRange': WHATEVER THE INPUT: true; the input reads as it did. -/
def kindRangeSpec : ChangeSpec := { name := "kindRange", fn := fun _ => fun
  | [d1, d2] => { results := [.lit (.bool true)], args := [d1, d2] }
  | _ => none }
def kindRangeRow : OpenClaim := { program := "ytggfgbhodkfllaa", sum := "5e4c14a2b839a8745691c73d6fd83145837b648f4812cb62e94cc05a6bba5d32", func := "damask/damasklaw03.KindRange", spec := "kindRange", unfollowed := true, recurses := true, plainKeys := false, apart := false }
def KindRangeSaid : Prop := kindRangeRow.holds Try.pinned (OpenSpec.ofChange kindRangeSpec)

/-- ITS FALSE NEIGHBOUR: 'it returns false'. Refute it at one input. -/
def kindRangeWrong : ChangeSpec := { name := "kindRange", fn := fun _ => fun
  | [d1, d2] => { results := [.lit (.bool false)], args := [d1, d2] }
  | _ => none }
def KindRangeWrongFalsely : Prop := kindRangeRow.holds Try.pinned (OpenSpec.ofChange kindRangeWrong)

/-- 'damasklaw24.WindowViews': WHATEVER THE INPUT: true; the input reads as it did. -/
def windowViewsSpec : ChangeSpec := { name := "windowViews", fn := fun _ => fun
  | [d1, d2] => { results := [.lit (.bool true)], args := [d1, d2] }
  | _ => none }
def windowViewsRow : OpenClaim := { program := "ytggfgbhodkfllaa", sum := "5e4c14a2b839a8745691c73d6fd83145837b648f4812cb62e94cc05a6bba5d32", func := "damask/damasklaw24.WindowViews", spec := "windowViews", unfollowed := true, recurses := true, plainKeys := false, apart := false }
def WindowViewsSaid : Prop := windowViewsRow.holds Try.pinned (OpenSpec.ofChange windowViewsSpec)

/-- ITS FALSE NEIGHBOUR: 'it returns false'. Refute it at one input. -/
def windowViewsWrong : ChangeSpec := { name := "windowViews", fn := fun _ => fun
  | [d1, d2] => { results := [.lit (.bool false)], args := [d1, d2] }
  | _ => none }
def WindowViewsWrongFalsely : Prop := windowViewsRow.holds Try.pinned (OpenSpec.ofChange windowViewsWrong)

/-- 'damasklaw24.WindowNil': WHATEVER THE INPUT: true; the input reads as it did. -/
def windowNilSpec : ChangeSpec := { name := "windowNil", fn := fun _ => fun
  | [d] => { results := [.lit (.bool true)], args := [d] }
  | _ => none }
def windowNilRow : OpenClaim := { program := "ytggfgbhodkfllaa", sum := "5e4c14a2b839a8745691c73d6fd83145837b648f4812cb62e94cc05a6bba5d32", func := "damask/damasklaw24.WindowNil", spec := "windowNil", unfollowed := true, recurses := true, plainKeys := false, apart := false }
def WindowNilSaid : Prop := windowNilRow.holds Try.pinned (OpenSpec.ofChange windowNilSpec)

/-- ITS FALSE NEIGHBOUR: 'it returns false'. Refute it at one input. -/
def windowNilWrong : ChangeSpec := { name := "windowNil", fn := fun _ => fun
  | [d] => { results := [.lit (.bool false)], args := [d] }
  | _ => none }
def WindowNilWrongFalsely : Prop := windowNilRow.holds Try.pinned (OpenSpec.ofChange windowNilWrong)

/-- 'damasklaw24.WindowSees': WHATEVER THE INPUT: true; the input reads as it did. -/
def windowSeesSpec : ChangeSpec := { name := "windowSees", fn := fun _ => fun
  | [d1, d2] => { results := [.lit (.bool true)], args := [d1, d2] }
  | _ => none }
def windowSeesRow : OpenClaim := { program := "ytggfgbhodkfllaa", sum := "5e4c14a2b839a8745691c73d6fd83145837b648f4812cb62e94cc05a6bba5d32", func := "damask/damasklaw24.WindowSees", spec := "windowSees", unfollowed := true, recurses := true, plainKeys := false, apart := false }
def WindowSeesSaid : Prop := windowSeesRow.holds Try.pinned (OpenSpec.ofChange windowSeesSpec)

/-- ITS FALSE NEIGHBOUR: 'it returns false'. Refute it at one input. -/
def windowSeesWrong : ChangeSpec := { name := "windowSees", fn := fun _ => fun
  | [d1, d2] => { results := [.lit (.bool false)], args := [d1, d2] }
  | _ => none }
def WindowSeesWrongFalsely : Prop := windowSeesRow.holds Try.pinned (OpenSpec.ofChange windowSeesWrong)

/-- 'damasklaw24.WindowCausal': WHATEVER THE INPUT: true; the input reads as it did. -/
def windowCausalSpec : ChangeSpec := { name := "windowCausal", fn := fun _ => fun
  | [d1, d2] => { results := [.lit (.bool true)], args := [d1, d2] }
  | _ => none }
def windowCausalRow : OpenClaim := { program := "ytggfgbhodkfllaa", sum := "5e4c14a2b839a8745691c73d6fd83145837b648f4812cb62e94cc05a6bba5d32", func := "damask/damasklaw24.WindowCausal", spec := "windowCausal", unfollowed := true, recurses := true, plainKeys := false, apart := false }
def WindowCausalSaid : Prop := windowCausalRow.holds Try.pinned (OpenSpec.ofChange windowCausalSpec)

/-- ITS FALSE NEIGHBOUR: 'it returns false'. Refute it at one input. -/
def windowCausalWrong : ChangeSpec := { name := "windowCausal", fn := fun _ => fun
  | [d1, d2] => { results := [.lit (.bool false)], args := [d1, d2] }
  | _ => none }
def WindowCausalWrongFalsely : Prop := windowCausalRow.holds Try.pinned (OpenSpec.ofChange windowCausalWrong)

/- THE SECOND FORM. 'bulk': how many values and letters a reading holds, each counted each time it is reached (what is shared counts as often as it is met; a slice's spare places count too). A statement '..UptoSaid' is the law's where the arguments, and the package variables that the reading takes, are together of bulk at most 1048576: NARROWER than '..Said'. Prove '..Said' where nothing that the law and all that it calls make is longer than what came in: it says more and counts as full. Else prove '..UptoSaid'. A law counts once. -/
mutual
def uptoBulk {H : Type} : DataW H → Nat
  | .lit (.string bytes) => bytes.length + 1
  | .lit _ => 1
  | .nil => 1
  | .ptr d => uptoBulk d + 1
  | .slice elems spare => uptoBulkAll elems + uptoBulkAll spare + 1
  | .agg parts => uptoBulkAll parts + 1
  | .iface _ d => uptoBulk d + 1
  | .map entries => uptoBulkEntries entries + 1
  | .held _ => 1
def uptoBulkAll {H : Type} : List (DataW H) → Nat
  | [] => 0
  | d :: r => uptoBulk d + uptoBulkAll r
def uptoBulkEntries {H : Type} : List (Lit × DataW H) → Nat
  | [] => 0
  | x :: r => uptoBulkEntry x + uptoBulkEntries r
def uptoBulkEntry {H : Type} : Lit × DataW H → Nat
  | (.string bytes, d) => bytes.length + uptoBulk d + 1
  | (_, d) => uptoBulk d + 1
 end
def uptoSmall : (H : Type) → List (DataW H) → Bool := fun _ ds => decide (uptoBulkAll ds ≤ 1048576)
def OpenSpec.upto (s : _root_.Go.ChangeSpec) : _root_.Go.OpenSpec := { _root_.Go.OpenSpec.ofChange s with cond := some uptoSmall }

/-- 'damasklaw23.SignalPlaces', WHERE WHAT IT READS IS OF BULK AT MOST 1048576: true; the input reads as it did. -/
def signalPlacesUptoRow : OpenClaim := { program := "ytggfgbhodkfllaa", sum := "5e4c14a2b839a8745691c73d6fd83145837b648f4812cb62e94cc05a6bba5d32", func := "damask/damasklaw23.SignalPlaces", spec := "signalPlaces", plainKeys := false, apart := false, narrowed := true }
def SignalPlacesUptoSaid : Prop := signalPlacesUptoRow.holds Try.pinned (OpenSpec.upto signalPlacesSpec)

/-- 'damasklaw23.SignalRound', WHERE WHAT IT READS IS OF BULK AT MOST 1048576: true; the input reads as it did. -/
def signalRoundUptoRow : OpenClaim := { program := "ytggfgbhodkfllaa", sum := "5e4c14a2b839a8745691c73d6fd83145837b648f4812cb62e94cc05a6bba5d32", func := "damask/damasklaw23.SignalRound", spec := "signalRound", plainKeys := false, apart := false, narrowed := true }
def SignalRoundUptoSaid : Prop := signalRoundUptoRow.holds Try.pinned (OpenSpec.upto signalRoundSpec)

/-- 'damasklaw03.KindBounds', WHERE WHAT IT READS IS OF BULK AT MOST 1048576: true; the input reads as it did. -/
def kindBoundsUptoRow : OpenClaim := { program := "ytggfgbhodkfllaa", sum := "5e4c14a2b839a8745691c73d6fd83145837b648f4812cb62e94cc05a6bba5d32", func := "damask/damasklaw03.KindBounds", spec := "kindBounds", unfollowed := true, recurses := true, plainKeys := false, apart := false, narrowed := true }
def KindBoundsUptoSaid : Prop := kindBoundsUptoRow.holds Try.pinned (OpenSpec.upto kindBoundsSpec)

/-- 'damasklaw03.KindPlaces', WHERE WHAT IT READS IS OF BULK AT MOST 1048576: true; the input reads as it did. -/
def kindPlacesUptoRow : OpenClaim := { program := "ytggfgbhodkfllaa", sum := "5e4c14a2b839a8745691c73d6fd83145837b648f4812cb62e94cc05a6bba5d32", func := "damask/damasklaw03.KindPlaces", spec := "kindPlaces", unfollowed := true, recurses := true, plainKeys := false, apart := false, narrowed := true }
def KindPlacesUptoSaid : Prop := kindPlacesUptoRow.holds Try.pinned (OpenSpec.upto kindPlacesSpec)

/-- 'damasklaw03.KindCausal', WHERE WHAT IT READS IS OF BULK AT MOST 1048576: true; the input reads as it did. -/
def kindCausalUptoRow : OpenClaim := { program := "ytggfgbhodkfllaa", sum := "5e4c14a2b839a8745691c73d6fd83145837b648f4812cb62e94cc05a6bba5d32", func := "damask/damasklaw03.KindCausal", spec := "kindCausal", unfollowed := true, recurses := true, plainKeys := false, apart := false, narrowed := true }
def KindCausalUptoSaid : Prop := kindCausalUptoRow.holds Try.pinned (OpenSpec.upto kindCausalSpec)

/-- 'damasklaw23.SignalShapes', WHERE WHAT IT READS IS OF BULK AT MOST 1048576: true; the input reads as it did. -/
def signalShapesUptoRow : OpenClaim := { program := "ytggfgbhodkfllaa", sum := "5e4c14a2b839a8745691c73d6fd83145837b648f4812cb62e94cc05a6bba5d32", func := "damask/damasklaw23.SignalShapes", spec := "signalShapes", plainKeys := false, apart := false, narrowed := true }
def SignalShapesUptoSaid : Prop := signalShapesUptoRow.holds Try.pinned (OpenSpec.upto signalShapesSpec)

/-- 'damasklaw23.SignalNew', WHERE WHAT IT READS IS OF BULK AT MOST 1048576: true; the input reads as it did. -/
def signalNewUptoRow : OpenClaim := { program := "ytggfgbhodkfllaa", sum := "5e4c14a2b839a8745691c73d6fd83145837b648f4812cb62e94cc05a6bba5d32", func := "damask/damasklaw23.SignalNew", spec := "signalNew", plainKeys := false, apart := false, narrowed := true }
def SignalNewUptoSaid : Prop := signalNewUptoRow.holds Try.pinned (OpenSpec.upto signalNewSpec)

/-- 'damasklaw03.KindInputs', WHERE WHAT IT READS IS OF BULK AT MOST 1048576: true; the input reads as it did. -/
def kindInputsUptoRow : OpenClaim := { program := "ytggfgbhodkfllaa", sum := "5e4c14a2b839a8745691c73d6fd83145837b648f4812cb62e94cc05a6bba5d32", func := "damask/damasklaw03.KindInputs", spec := "kindInputs", unfollowed := true, recurses := true, plainKeys := false, apart := false, narrowed := true }
def KindInputsUptoSaid : Prop := kindInputsUptoRow.holds Try.pinned (OpenSpec.upto kindInputsSpec)

/-- 'damasklaw03.KindFits', WHERE WHAT IT READS IS OF BULK AT MOST 1048576: true; the input reads as it did. -/
def kindFitsUptoRow : OpenClaim := { program := "ytggfgbhodkfllaa", sum := "5e4c14a2b839a8745691c73d6fd83145837b648f4812cb62e94cc05a6bba5d32", func := "damask/damasklaw03.KindFits", spec := "kindFits", unfollowed := true, recurses := true, plainKeys := false, apart := false, narrowed := true }
def KindFitsUptoSaid : Prop := kindFitsUptoRow.holds Try.pinned (OpenSpec.upto kindFitsSpec)

/-- 'damasklaw03.KindRange', WHERE WHAT IT READS IS OF BULK AT MOST 1048576: true; the input reads as it did. -/
def kindRangeUptoRow : OpenClaim := { program := "ytggfgbhodkfllaa", sum := "5e4c14a2b839a8745691c73d6fd83145837b648f4812cb62e94cc05a6bba5d32", func := "damask/damasklaw03.KindRange", spec := "kindRange", unfollowed := true, recurses := true, plainKeys := false, apart := false, narrowed := true }
def KindRangeUptoSaid : Prop := kindRangeUptoRow.holds Try.pinned (OpenSpec.upto kindRangeSpec)

/-- 'damasklaw24.WindowViews', WHERE WHAT IT READS IS OF BULK AT MOST 1048576: true; the input reads as it did. -/
def windowViewsUptoRow : OpenClaim := { program := "ytggfgbhodkfllaa", sum := "5e4c14a2b839a8745691c73d6fd83145837b648f4812cb62e94cc05a6bba5d32", func := "damask/damasklaw24.WindowViews", spec := "windowViews", unfollowed := true, recurses := true, plainKeys := false, apart := false, narrowed := true }
def WindowViewsUptoSaid : Prop := windowViewsUptoRow.holds Try.pinned (OpenSpec.upto windowViewsSpec)

/-- 'damasklaw24.WindowNil', WHERE WHAT IT READS IS OF BULK AT MOST 1048576: true; the input reads as it did. -/
def windowNilUptoRow : OpenClaim := { program := "ytggfgbhodkfllaa", sum := "5e4c14a2b839a8745691c73d6fd83145837b648f4812cb62e94cc05a6bba5d32", func := "damask/damasklaw24.WindowNil", spec := "windowNil", unfollowed := true, recurses := true, plainKeys := false, apart := false, narrowed := true }
def WindowNilUptoSaid : Prop := windowNilUptoRow.holds Try.pinned (OpenSpec.upto windowNilSpec)

/-- 'damasklaw24.WindowSees', WHERE WHAT IT READS IS OF BULK AT MOST 1048576: true; the input reads as it did. -/
def windowSeesUptoRow : OpenClaim := { program := "ytggfgbhodkfllaa", sum := "5e4c14a2b839a8745691c73d6fd83145837b648f4812cb62e94cc05a6bba5d32", func := "damask/damasklaw24.WindowSees", spec := "windowSees", unfollowed := true, recurses := true, plainKeys := false, apart := false, narrowed := true }
def WindowSeesUptoSaid : Prop := windowSeesUptoRow.holds Try.pinned (OpenSpec.upto windowSeesSpec)

/-- 'damasklaw24.WindowCausal', WHERE WHAT IT READS IS OF BULK AT MOST 1048576: true; the input reads as it did. -/
def windowCausalUptoRow : OpenClaim := { program := "ytggfgbhodkfllaa", sum := "5e4c14a2b839a8745691c73d6fd83145837b648f4812cb62e94cc05a6bba5d32", func := "damask/damasklaw24.WindowCausal", spec := "windowCausal", unfollowed := true, recurses := true, plainKeys := false, apart := false, narrowed := true }
def WindowCausalUptoSaid : Prop := windowCausalUptoRow.holds Try.pinned (OpenSpec.upto windowCausalSpec)

end Rows
end Go.Proofs.Ytggfgbhodkfllaa
