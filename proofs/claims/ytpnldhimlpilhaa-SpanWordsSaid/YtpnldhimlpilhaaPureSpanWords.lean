/- The statement SpanWords of layer 5 (whole spans, joined spans): for all arguments, no condition. -/
import Derived.Test.YtpnldhimlpilhaaSp
import Derived.Test.YtpnldhimlpilhaaFlawSpanWords1
namespace Go.Proofs.Ytpnldhimlpilhaa.Pure
open Go.RowKit Go.Proofs.Ytpnldhimlpilhaa.F Go.Proofs.YtpnldhimlpilhaaW.PrintWords Go.Proofs.YtpnldhimlpilhaaW.PrintLast Go.Proofs.YtpnldhimlpilhaaW.PrintMore

theorem ref_has (x y z : Int) : damaskref05_Has.f x y z = some (decide (x ≤ z ∧ z ≤ y)) := by
  show (if z < x then some (!true) else some (!decide (y < z))) = _
  by_cases h : z < x
  · rw [if_pos h, decide_eq_false (by omega)]; rfl
  · rw [if_neg h, ← decide_not]; congr 1; apply decide_eq_decide.mpr; omega
theorem words_j0 (a b : Int × Int) (x : Int) : damasklaw05_SpanWords.j0 30 x false a.1 a.2 b.1 b.2 (min a.1 b.1) (max a.2 b.2) = some true := by
  have hc := fun s : Int × Int => has_code s x
  simp only [damasklaw05_SpanWords.j0]
  rw [hc a, hc b, hc (min a.1 b.1, max a.2 b.2)]
  simp only [Option.bind_some, decide_eq_true_eq, if_false, Bool.false_eq_true]
  repeat' split
  all_goals first | rfl | (exfalso; omega) | (congr 1; simp; omega)
theorem SpanWords : damasklaw05_SpanWords.Pure := by
  intro a b c d x _ _ _ _ _
  refine ⟨30, ?_⟩
  unfold damasklaw05_SpanWords.f
  have hj : ∀ a b c d, span_Join.f a b c d = some (min a c, max b d) := fun a b c d => by show some (mn a c, mx b d) = _; rw [mn_min, mx_max]
  rw [hj, hj, awake05 0, whole_code, ref_whole_code, ref_has, show span_Has.f a b x = _ from has_code (a, b) x]
  simp only [Option.bind_some, if_true, bne_self_eq_false, Bool.false_eq_true, if_false]
  rw [Int.min_comm c a, Int.max_comm d b]
  simp only [beq_self_eq_true, Bool.not_true, Bool.or_false]
  exact words_j0 (a, b) (c, d) x
end Go.Proofs.Ytpnldhimlpilhaa.Pure
