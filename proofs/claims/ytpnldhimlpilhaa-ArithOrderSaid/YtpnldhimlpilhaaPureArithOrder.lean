/- The statement ArithOrder of layer 4 (comparisons and choices): for all arguments, no condition. -/
import Derived.Test.YtpnldhimlpilhaaSg
import Derived.Test.YtpnldhimlpilhaaFlawArithOrder1
namespace Go.Proofs.Ytpnldhimlpilhaa.Pure
open Go.RowKit Go.Proofs.Ytpnldhimlpilhaa.F Go.Proofs.YtpnldhimlpilhaaW.PrintWords Go.Proofs.YtpnldhimlpilhaaW.PrintLast Go.Proofs.YtpnldhimlpilhaaW.PrintMore

theorem bit_bound (p : Bool) : -2147483648 ≤ Dk.bit p ∧ Dk.bit p ≤ 2147483647 := by cases p <;> decide
theorem order_j0 (x y z : Int) (hx : -2147483648 ≤ x ∧ x ≤ 2147483647) (hy : -2147483648 ≤ y ∧ y ≤ 2147483647) (hz : -2147483648 ≤ z ∧ z ≤ 2147483647) : damasklaw04_ArithOrder.j0 20 x y z false = some true := by
  show (if false = true then some false else ((damasklaw04_of.f 19 24 [x, y]).bind _)) = _
  have e24 := of_two 11 24 x y (min x y) rfl rfl (wd _ hx) (wd _ hy) rfl (wd _ (by omega))
  have e25 := of_two 11 25 x y (max x y) rfl rfl (wd _ hx) (wd _ hy) rfl (wd _ (by omega))
  have e27 := of_three 11 27 x y z (Dk.mid x y z) rfl rfl (wd _ hx) (wd _ hy) (wd _ hz) rfl (wd _ (by unfold Dk.mid; omega))
  have e26 := of_three 11 26 z (min x y) (max x y) (min (max z (min x y)) (max x y)) rfl rfl (wd _ hz) (wd _ (by omega)) (wd _ (by omega)) rfl (wd _ (by omega))
  have e28 := of_three 11 28 x y z (if x = 0 then z else y) rfl rfl (wd _ hx) (wd _ hy) (wd _ hz) rfl (wd _ (by split <;> omega))
  rw [if_neg (by decide), e24, e25, e27, e28]
  simp only [Option.bind_some]
  rw [e26]
  simp only [Option.bind_some, if_true]
  rw [Dk.wrap64_of (min x y + max x y) (by omega), Dk.wrap64_of (x + y) (by omega), if_pos (by omega), if_neg (by omega), if_pos (show Dk.mid x y z = min (max z (min x y)) (max x y) by unfold Dk.mid; omega), if_neg (by omega), if_neg (by omega)]
  by_cases h : x = 0
  · rw [if_pos h, if_pos h]; simp
  · rw [if_neg h, if_neg h, if_pos rfl]
theorem ArithOrder : damasklaw04_ArithOrder.Pure := by
  intro x y z hx hy hz
  rw [wf32] at hx hy hz
  refine ⟨20, ?_⟩
  unfold damasklaw04_ArithOrder.f
  rw [Dk.wrap64_of x (by omega), Dk.wrap64_of y (by omega), Dk.wrap64_of z (by omega)]
  have hj := order_j0 x y z hx hy hz
  rw [of_two 12 18 x y (Dk.bit (decide (x < y))) rfl rfl (wd _ hx) (wd _ hy) rfl (wd _ (bit_bound _))]
  rw [of_two 12 20 x y (Dk.bit (decide (y < x))) rfl rfl (wd _ hx) (wd _ hy) rfl (wd _ (bit_bound _))]
  rw [of_two 12 22 x y (Dk.bit (decide (x = y))) rfl rfl (wd _ hx) (wd _ hy) rfl (wd _ (bit_bound _))]
  rw [of_two 12 19 x y (Dk.bit (decide (x ≤ y))) rfl rfl (wd _ hx) (wd _ hy) rfl (wd _ (bit_bound _))]
  rw [of_two 12 21 x y (Dk.bit (decide (y ≤ x))) rfl rfl (wd _ hx) (wd _ hy) rfl (wd _ (bit_bound _))]
  rw [of_two 12 23 x y (Dk.bit (decide (x ≠ y))) rfl rfl (wd _ hx) (wd _ hy) rfl (wd _ (bit_bound _))]
  rw [awake_code 12]
  simp only [Option.bind_some, if_true]
  generalize damasklaw04_ArithOrder.j0 20 x y z false = J at hj
  generalize damasklaw04_ArithOrder.j0 20 x y z true = J'
  subst hj
  rcases Int.lt_trichotomy x y with h | h | h
  · rw [decide_eq_true h, decide_eq_false (show ¬ y < x by omega), decide_eq_false (show ¬ x = y by omega), decide_eq_true (show x ≤ y by omega), decide_eq_false (show ¬ y ≤ x by omega), decide_eq_true (show x ≠ y by omega)]
    simp [show Dk.bit true = 1 from rfl, show Dk.bit false = 0 from rfl, Dk.wrap64_of 0 (by decide), Dk.wrap64_of 1 (by decide), h, show ¬ x = y by omega]
  · subst h
    simp [show Dk.bit true = 1 from rfl, show Dk.bit false = 0 from rfl, Dk.wrap64_of 0 (by decide), Dk.wrap64_of 1 (by decide)]
  · rw [decide_eq_false (show ¬ x < y by omega), decide_eq_true h, decide_eq_false (show ¬ x = y by omega), decide_eq_false (show ¬ x ≤ y by omega), decide_eq_true (show y ≤ x by omega), decide_eq_true (show x ≠ y by omega)]
    simp [show Dk.bit true = 1 from rfl, show Dk.bit false = 0 from rfl, Dk.wrap64_of 0 (by decide), Dk.wrap64_of 1 (by decide), show ¬ x < y by omega, show ¬ x = y by omega]

end Go.Proofs.Ytpnldhimlpilhaa.Pure
