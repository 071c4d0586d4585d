/- The statement ArithNames of layer 4 (arity, constants, 32-bit words of every operator number and constant): for all arguments, no condition. -/
import Derived.Test.YtpnldhimlpilhaaSc
import Derived.Test.YtpnldhimlpilhaaFx4
namespace Go.Proofs.Ytpnldhimlpilhaa.Pure
open Go.RowKit Go.Proofs.Ytpnldhimlpilhaa.F Go.Proofs.YtpnldhimlpilhaaW.PrintWords Go.Proofs.YtpnldhimlpilhaaW.PrintLast

theorem ArithNames : damasklaw04_ArithNames.Pure := by
  intro a0 a1 a2 _ _ _
  refine ⟨8, ?_⟩
  unfold damasklaw04_ArithNames.f
  rw [awake_code 0, arity_code 5, ref_arity_code 5, consts_code 5, ref_consts_code 5, word_code, ref_word_code]
  simp

end Go.Proofs.Ytpnldhimlpilhaa.Pure
