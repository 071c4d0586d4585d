/- The fixed fact at the head of layer 23's statements. -/
import Derived.Test.YtggfgbhodkfllaaSi
import Derived.Test.YtggfgbhodkfllaaFdamasklaw231
namespace Go.Proofs.Ytggfgbhodkfllaa.Pure
open Go.RowKit Go.Proofs.Ytggfgbhodkfllaa.F Go.Proofs.YtggfgbhodkfllaaW.PrintWords Go.Proofs.YtggfgbhodkfllaaW.PrintLast Go.Proofs.YtggfgbhodkfllaaW.PrintMore

theorem awake23_at : damasklaw23_awake.f 80 = some true := by decide +kernel
theorem awake23_code (k : Nat) : damasklaw23_awake.f (k + 80) = some true := by
  induction k with
  | zero => exact awake23_at
  | succ k ih => exact damasklaw23_awake.mono _ _ ih
end Go.Proofs.Ytggfgbhodkfllaa.Pure
