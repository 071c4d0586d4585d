/- The statement SignalPlaces of layer 23 (the place of every sample, the sample of every place): for all arguments, no condition. -/
import Derived.Test.YtggfgbhodkfllaaSk
import Derived.Test.YtggfgbhodkfllaaFlawSignalPlaces1
namespace Go.Proofs.Ytggfgbhodkfllaa.Pure
open Go.RowKit Go.Proofs.Ytggfgbhodkfllaa.F Go.Proofs.YtggfgbhodkfllaaW.PrintWords Go.Proofs.YtggfgbhodkfllaaW.PrintLast Go.Proofs.YtggfgbhodkfllaaW.PrintMore

theorem SignalPlaces : damasklaw23_SignalPlaces.Pure := by
  intro f d p w h l i c x y _ _ _ _ _ _ _ _ _ _ _ _
  refine ⟨100, ?_⟩
  unfold damasklaw23_SignalPlaces.f
  rw [where_code 98, ref_where_code 98, index_code 98, ref_index_code 98, awake23_code 20]
  simp

end Go.Proofs.Ytggfgbhodkfllaa.Pure
