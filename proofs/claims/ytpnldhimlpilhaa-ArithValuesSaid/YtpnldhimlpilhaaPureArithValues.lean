/- The statement ArithValues of layer 4 (every answer of every operator, whatever is handed in; the arguments stay): for all arguments, no condition. -/
import Derived.Test.YtpnldhimlpilhaaSf
import Derived.Test.YtpnldhimlpilhaaFlawArithValues1
namespace Go.Proofs.Ytpnldhimlpilhaa.Pure
open Go.RowKit Go.Proofs.Ytpnldhimlpilhaa.F Go.Proofs.YtpnldhimlpilhaaW.PrintWords Go.Proofs.YtpnldhimlpilhaaW.PrintLast Go.Proofs.YtpnldhimlpilhaaW.PrintMore

theorem values_l0 (l : List Int) (hl : l.length ≤ 9223372036854775807) : ∀ (d k i : Nat), i + d = l.length → damasklaw04_ArithValues.l0 (k + d + 1) l l i = some true := by
  intro d
  induction d with
  | zero => intro k i h; simp only [damasklaw04_ArithValues.l0]; rw [if_neg (by omega)]
  | succ d ih =>
    intro k i h
    have e : damasklaw04_ArithValues.l0 (k + d + 1 + 1) l l i = if (i : Int) < (l.length : Int) then (if 0 ≤ (i : Int) then (if (i : Int) < (l.length : Int) then (if rd l i = rd l i then damasklaw04_ArithValues.l0 (k + d + 1) l l (wrap64 (i + 1)) else some false) else none) else none) else some true := rfl
    rw [show k + (d + 1) + 1 = k + d + 1 + 1 from rfl, e, if_pos (by omega), if_pos (by omega), if_pos (by omega), if_pos rfl, Dk.wrap64_of _ (by omega)]
    exact ih k (i + 1) (by omega)
theorem ArithValues : damasklaw04_ArithValues.Pure := by
  intro a0 a1 a2 l _ _ _ _ hl _
  refine ⟨100 + l.length + 2, ?_⟩
  unfold damasklaw04_ArithValues.f
  simp only [Option.bind_some, List.nil_append, List.length_nil, Nat.zero_add]
  rw [if_pos (by omega), show 100 + l.length + 2 = (l.length + 94) + 8 by omega, Value_code, awake_code, show l.length + 94 + 8 = (l.length + 2) + 100 by omega, ref_Value_code]
  simp only [Option.bind_some, if_true, bne_self_eq_false]
  show damasklaw04_ArithValues.l0 (l.length + 101) l l 0 = some true
  exact values_l0 l (by omega) l.length 100 0 (by omega) |> fun h => by rw [show l.length + 101 = 100 + l.length + 1 by omega]; exact h

end Go.Proofs.Ytpnldhimlpilhaa.Pure
