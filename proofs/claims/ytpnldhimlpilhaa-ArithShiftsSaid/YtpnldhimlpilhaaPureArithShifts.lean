/- The statement ArithShifts of layer 4 (shifts as products and floors): for all arguments, no condition. -/
import Derived.Test.YtpnldhimlpilhaaSg
import Derived.Test.YtpnldhimlpilhaaFlawArithShifts1
namespace Go.Proofs.Ytpnldhimlpilhaa.Pure
open Go.RowKit Go.Proofs.Ytpnldhimlpilhaa.F Go.Proofs.YtpnldhimlpilhaaW.PrintWords Go.Proofs.YtpnldhimlpilhaaW.PrintLast Go.Proofs.YtpnldhimlpilhaaW.PrintMore

theorem shift_word {x y : Int} (hx : -2147483648 ≤ x ∧ x ≤ 2147483647) (hy0 : 0 ≤ y) (hy : y ≤ 31) : shl .i64 x y = x * 2 ^ y.toNat := by
  have hp := Dk.pow_le31 y.toNat (by omega)
  have hm := Dk.mul_bound (a := x) (b := 2 ^ y.toNat) (A := 2147483648) (B := 2147483648) (by omega) (by omega) (by omega) (by omega)
  unfold shl
  rw [Nat.min_eq_left (show y.toNat ≤ IntKind.i64.bits by show y.toNat ≤ 64; omega)]
  exact (i64_w _).trans (Dk.wrap64_of _ (by omega))
theorem right_k (k : Nat) (x y : Int) (hx : -2147483648 ≤ x ∧ x ≤ 2147483647) (hy0 : 0 ≤ y) (hy : y ≤ 31) : arith_Value.f (k + 8) 30 y 0 [x] = some (x / 2 ^ y.toNat, 0) := by
  have hb := Dk.fdiv_bound (a := x) (d := 2 ^ y.toNat) (A := 2147483648) (by omega) (by omega) (by omega) (Dk.pow_le31 y.toNat (by omega)).1
  have hp := Dk.pow_le31 y.toNat (by omega)
  have hu : x / 2 ^ y.toNat ≤ 2147483647 := by
    refine Int.ediv_le_of_le_mul (by omega) ?_
    have : (2147483647 : Int) * 1 ≤ 2147483647 * 2 ^ y.toNat := Int.mul_le_mul_of_nonneg_left hp.1 (by omega)
    omega
  rw [Value_code, value_one 30 y 0 x rfl (decide_eq_true ⟨hy0, hy⟩) (wd _ hx), show Dk.val1 30 y 0 x = (x / 2 ^ y.toNat, 0) from rfl, fin_ok _ (wd _ (by omega))]
theorem right_2 (k : Nat) (x y : Int) (hx : -2147483648 ≤ x ∧ x ≤ 2147483647) (hy0 : 0 ≤ y) (hy : y ≤ 31) : arith_Value.f (k + 8) 14 0 0 [x, y] = some (x / 2 ^ y.toNat, 0) := by
  have hb := Dk.fdiv_bound (a := x) (d := 2 ^ y.toNat) (A := 2147483648) (by omega) (by omega) (by omega) (Dk.pow_le31 y.toNat (by omega)).1
  have hp := Dk.pow_le31 y.toNat (by omega)
  have hu : x / 2 ^ y.toNat ≤ 2147483647 := by
    refine Int.ediv_le_of_le_mul (by omega) ?_
    have : (2147483647 : Int) * 1 ≤ 2147483647 * 2 ^ y.toNat := Int.mul_le_mul_of_nonneg_left hp.1 (by omega)
    omega
  have e : Dk.val2 14 x y = (x / 2 ^ y.toNat, 0) := by show (if y < 0 ∨ y > 31 then _ else _) = _; rw [if_neg (by omega)]
  rw [Value_code, value_two 14 0 0 x y rfl rfl (wd _ hx) (wd _ (by omega)), e, fin_ok _ (wd _ (by omega))]
/-- what stands behind the check of the left shift -/
theorem floor_ok (x y : Int) (hx : -2147483648 ≤ x ∧ x ≤ 2147483647) (hy0 : 0 ≤ y) (hy : y ≤ 31) :
    (if wrap64 (x / 2 ^ y.toNat * shl .i64 1 y) ≤ x then (if x < wrap64 (wrap64 (x / 2 ^ y.toNat + 1) * shl .i64 1 y) then some true else some false) else some false) = some true := by
  have hp := Dk.pow_le31 y.toNat (by omega)
  have hb := Dk.fdiv_bound (a := x) (d := 2 ^ y.toNat) (A := 2147483648) (by omega) (by omega) (by omega) hp.1
  rw [shift_word (x := 1) (by omega) hy0 hy, Int.one_mul]
  have h1 := Int.ediv_mul_le x (show (2 : Int) ^ y.toNat ≠ 0 by omega)
  have h2 := Int.lt_ediv_add_one_mul_self x (show 0 < (2 : Int) ^ y.toNat by omega)
  have hm := Dk.mul_bound (a := x / 2 ^ y.toNat) (b := 2 ^ y.toNat) (A := 2147483648) (B := 2147483648) (by omega) (by omega) (by omega) (by omega)
  have hn := Dk.mul_bound (a := x / 2 ^ y.toNat + 1) (b := 2 ^ y.toNat) (A := 2147483649) (B := 2147483648) (by omega) (by omega) (by omega) (by omega)
  rw [Dk.wrap64_of (x / 2 ^ y.toNat * 2 ^ y.toNat) (by omega), Dk.wrap64_of (x / 2 ^ y.toNat + 1) (by omega), Dk.wrap64_of ((x / 2 ^ y.toNat + 1) * 2 ^ y.toNat) (by omega), if_pos h1, if_pos h2]
theorem ArithShifts : damasklaw04_ArithShifts.Pure := by
  intro x n hx hn
  rw [wf32] at hx
  rw [wfu8] at hn
  refine ⟨20, ?_⟩
  have hy0 : 0 ≤ Int.tmod n 32 := Int.tmod_nonneg 32 hn.1
  have hy : Int.tmod n 32 ≤ 31 := by have := Int.tmod_lt_of_pos n (show (0 : Int) < 32 by decide); omega
  unfold damasklaw04_ArithShifts.f
  rw [Dk.wrap64_of x (by omega), Dk.wrap64_of (Int.tmod n 32) (by omega)]
  generalize Int.tmod n 32 = y at *
  have hp := Dk.pow_le31 y.toNat (by omega)
  have hm := Dk.mul_bound (a := x) (b := 2 ^ y.toNat) (A := 2147483648) (B := 2147483648) (by omega) (by omega) (by omega) (by omega)
  have e13 : Dk.val2 13 x y = (x * 2 ^ y.toNat, 0) := by show (if y < 0 ∨ y > 31 then _ else _) = _; rw [if_neg (by omega)]
  rw [Value_code 12, Value_code 12, value_two 13 0 0 x y rfl rfl (wd _ hx) (wd _ (by omega)), value_one 29 y 0 x rfl (decide_eq_true ⟨hy0, hy⟩) (wd _ hx), e13, show Dk.val1 29 y 0 x = (x * 2 ^ y.toNat, 0) from rfl, awake_code 12]
  simp only [Option.bind_some, if_true, bne_self_eq_false]
  show (if false = true then some false else if 0 ≤ y then _ else _) = _
  rw [if_neg (by decide), if_pos hy0, shift_word hx hy0 hy]
  have hfl := floor_ok x y hx hy0 hy
  have hk : ∀ k, (arith_Value.f (k + 8) 14 0 0 [x, y]).bind (fun bt266 => (arith_Value.f (k + 8) 30 y 0 [x]).bind fun bt271 => (if bt266.2 = 0 then (if bt271.2 = 0 then (if bt266.1 = bt271.1 then (if 0 ≤ y then (if (wrap64 (bt266.1 * (shl .i64 1 y))) ≤ x then (if x < (wrap64 ((wrap64 (bt266.1 + 1)) * (shl .i64 1 y))) then (some true) else (some false)) else (some false)) else (none)) else (some false)) else (some false)) else (some false))) = some true := by
    intro k
    rw [right_2 k x y hx hy0 hy, right_k k x y hx hy0 hy]
    simp only [Option.bind_some, if_true]
    rw [if_pos hy0]; exact hfl
  have hww := Dk.word_wrap (x * 2 ^ y.toNat)
  by_cases hw : Dk.word (x * 2 ^ y.toNat) = true
  · rw [hw] at hww
    rw [if_pos (by rw [beq_iff_eq] at hww; exact hww.symm), fin_ok _ hw]
    simp only [if_true]
    show ((arith_Value.f 18 30 y 0 [x * 2 ^ y.toNat]).bind _) = _
    rw [right_k 10 (x * 2 ^ y.toNat) y ((Dk.word_iff _).mp hw) hy0 hy]
    simp only [Option.bind_some, if_true]
    rw [Int.mul_ediv_cancel x (by omega), if_pos rfl, if_pos hy0, shift_word (x := 1) (by omega) hy0 hy, Int.one_mul, Dk.wrap64_of (x * 2 ^ y.toNat) (by omega)]
    simp only [bne_self_eq_false]
    exact hk 9
  · have hw' : Dk.word (x * 2 ^ y.toNat) = false := by simpa using hw
    rw [hw'] at hww
    rw [if_neg (by rw [beq_eq_false_iff_ne] at hww; exact fun h => hww h.symm), fin_no _ hw']
    simp only [show ¬ ((13 : Int) = 0) by decide, if_false, bne_self_eq_false]
    exact hk 10

end Go.Proofs.Ytpnldhimlpilhaa.Pure
