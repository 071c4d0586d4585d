/- The statement ArithBits of layer 4 (and, or, exclusive or): for all arguments, no condition. -/
import Derived.Test.YtpnldhimlpilhaaSg
import Derived.Test.YtpnldhimlpilhaaFlawArithBits1
namespace Go.Proofs.Ytpnldhimlpilhaa.Pure
open Go.RowKit Go.Proofs.Ytpnldhimlpilhaa.F Go.Proofs.YtpnldhimlpilhaaW.PrintWords Go.Proofs.YtpnldhimlpilhaaW.PrintLast Go.Proofs.YtpnldhimlpilhaaW.PrintMore

theorem ArithBits : damasklaw04_ArithBits.Pure := by
  intro x y hx hy
  rw [wf32] at hx hy
  refine ⟨20, ?_⟩
  have b1 := Dk.band_in 31 (by omega) x y (by omega) (by omega) (by omega) (by omega)
  have b2 := Dk.bor_in 31 (by omega) x y (by omega) (by omega) (by omega) (by omega)
  have b3 := Dk.bxor_in 31 (by omega) x y (by omega) (by omega) (by omega) (by omega)
  have b4 := Dk.bxor_ones x (by unfold Dk.In64; omega)
  have b5 := Dk.band_turn x
  have b6 := Dk.band_bor x y (by unfold Dk.In64; omega) (by unfold Dk.In64; omega)
  have b7 := Dk.bor_band x y
  rw [show (2 : Int) ^ 31 = 2147483648 from rfl] at b1 b2 b3
  rw [b4] at b5
  unfold damasklaw04_ArithBits.f
  rw [Dk.wrap64_of x (by omega), Dk.wrap64_of y (by omega)]
  rw [of_two 12 15 x y (Dk.band x y) rfl rfl (wd _ (by omega)) (wd _ (by omega)) rfl (wd _ (by omega))]
  rw [of_two 12 16 x y (Dk.bor x y) rfl rfl (wd _ (by omega)) (wd _ (by omega)) rfl (wd _ (by omega))]
  rw [of_two 12 17 x y (Dk.bxor x y) rfl rfl (wd _ (by omega)) (wd _ (by omega)) rfl (wd _ (by omega))]
  rw [of_two 12 17 x (-1) (-x - 1) rfl rfl (wd _ (by omega)) rfl (by show (Dk.bxor x (-1), 0) = _; rw [b4]) (wd _ (by omega))]
  simp only [Option.bind_some]
  rw [of_two 12 15 x (-x - 1) 0 rfl rfl (wd _ (by omega)) (wd _ (by omega)) (by show (Dk.band x (-x - 1), 0) = _; rw [b5]) rfl, awake_code 12]
  simp only [Option.bind_some, if_true]
  rw [Dk.wrap64_of _ (by omega), Dk.wrap64_of (x + y) (by omega), if_pos b6, Dk.wrap64_of _ (by omega), if_pos b7, Dk.wrap64_of (-x) (by omega), Dk.wrap64_of (-x - 1) (by omega)]
  simp only [bne_self_eq_false]
  show (if false = true then some false else if y < 0 then some true else ((arith_Value.f 19 31 y 0 [x]).bind _)) = _
  rw [if_neg (by decide)]
  by_cases h0 : y < 0
  · rw [if_pos h0]
  · have b8 := Dk.band_right x y (by unfold Dk.In64; omega) (by omega)
    rw [if_neg h0, Value_code 11, value_one 31 y 0 x rfl (by show decide (0 ≤ y ∧ y ≤ 2147483647) = true; simp; omega) (wd _ (by omega))]
    show ((some (Dk.fin (Dk.band x y, 0))).bind _) = _
    rw [fin_ok _ (wd _ (by omega))]
    simp only [Option.bind_some]
    rw [if_pos trivial, if_pos trivial, if_pos (by omega), decide_eq_true (by omega)]

end Go.Proofs.Ytpnldhimlpilhaa.Pure
