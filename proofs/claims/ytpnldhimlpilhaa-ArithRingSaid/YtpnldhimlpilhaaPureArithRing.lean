/- The statement ArithRing of layer 4 (sums, differences, products, quotient and rest): for all arguments, no condition. -/
import Derived.Test.YtpnldhimlpilhaaSg
import Derived.Test.YtpnldhimlpilhaaFlawArithRing1
namespace Go.Proofs.Ytpnldhimlpilhaa.Pure
open Go.RowKit Go.Proofs.Ytpnldhimlpilhaa.F Go.Proofs.YtpnldhimlpilhaaW.PrintWords Go.Proofs.YtpnldhimlpilhaaW.PrintLast Go.Proofs.YtpnldhimlpilhaaW.PrintMore

theorem ArithRing : damasklaw04_ArithRing.Pure := by
  intro x y z hx hy hz
  rw [wf16] at hx hy hz
  refine ⟨20, ?_⟩
  have hm := Dk.mul_bound (a := x) (b := y) (A := 32768) (B := 32768) (by omega) (by omega) (by omega) (by omega)
  have hb := Dk.mul_bound (a := Dk.sgn x) (b := max x (-x)) (A := 1) (B := 32768) (by unfold Dk.sgn; repeat' split <;> omega) (by unfold Dk.sgn; repeat' split <;> omega) (by omega) (by omega)
  unfold damasklaw04_ArithRing.f
  rw [Dk.wrap64_of x (by omega), Dk.wrap64_of y (by omega), Dk.wrap64_of z (by omega)]
  rw [of_two 12 8 x y (x + y) rfl rfl (wd _ (by omega)) (wd _ (by omega)) rfl (wd _ (by omega))]
  rw [of_two 12 8 y x (y + x) rfl rfl (wd _ (by omega)) (wd _ (by omega)) rfl (wd _ (by omega))]
  simp only [Option.bind_some]
  rw [of_two 12 9 (x + y) y (x + y - y) rfl rfl (wd _ (by omega)) (wd _ (by omega)) rfl (wd _ (by omega))]
  rw [of_two 12 10 x y (x * y) rfl rfl (wd _ (by omega)) (wd _ (by omega)) rfl (wd _ (by omega))]
  rw [of_two 12 10 y x (y * x) rfl rfl (wd _ (by omega)) (wd _ (by omega)) rfl (wd _ (by rw [Int.mul_comm]; omega))]
  rw [of_one 12 5 x (-x) rfl rfl (wd _ (by omega)) rfl (wd _ (by omega))]
  rw [awake_code 12]
  simp only [Option.bind_some, if_true]
  rw [if_pos (by omega), if_pos (by omega), Int.mul_comm y x]
  simp only [bne_self_eq_false]
  show ((damasklaw04_of.f 19 8 [x, -x]).bind _) = _
  rw [of_two 11 8 x (-x) (x + -x) rfl rfl (wd _ (by omega)) (wd _ (by omega)) rfl (wd _ (by omega))]
  rw [of_one 11 7 x (Dk.sgn x) rfl rfl (wd _ (by omega)) rfl (wd _ (by unfold Dk.sgn; repeat' split <;> omega))]
  rw [of_one 11 6 x (max x (-x)) rfl rfl (wd _ (by omega)) rfl (wd _ (by omega))]
  simp only [Option.bind_some]
  rw [of_two 11 10 (Dk.sgn x) (max x (-x)) (Dk.sgn x * max x (-x)) rfl rfl (wd _ (by unfold Dk.sgn; repeat' split <;> omega)) (wd _ (by omega)) rfl (wd _ (by omega))]
  have hsg : Dk.sgn x * max x (-x) = x := by
    unfold Dk.sgn
    split
    · omega
    · split
      · subst x; rfl
      · omega
  have hs1 : -1 ≤ Dk.sgn x ∧ Dk.sgn x ≤ 1 := by unfold Dk.sgn; repeat' split <;> omega
  simp only [Option.bind_some, if_true]
  rw [if_pos (by omega), if_pos hsg, if_neg (by omega), if_neg (by omega), decide_eq_false (by omega)]
  generalize hp : x * y = p at *
  show (if false = true then some false else ((arith_Value.f 18 11 0 0 [p, z]).bind _)) = _
  rw [if_neg (by decide), Value_code 10, Value_code 10, value_two 11 0 0 p z rfl rfl (wd _ (by omega)) (wd _ (by omega)), value_two 12 0 0 p z rfl rfl (wd _ (by omega)) (wd _ (by omega))]
  simp only [Option.bind_some]
  by_cases h0 : z = 0
  · subst h0; rw [if_pos rfl]; rfl
  · rw [if_neg h0]
    have e11 : Dk.val2 11 p z = (p.tdiv z, 0) := by show (if z = 0 then _ else _) = _; rw [if_neg h0]
    have e12 : Dk.val2 12 p z = (p.tmod z, 0) := by show (if z = 0 then _ else _) = _; rw [if_neg h0]
    have ht := Dk.tdiv_bound (a := p) (b := z) (A := 1073741824) (by omega) (by omega)
    have hr := Int.natAbs_tmod p z
    have hr2 : p.natAbs % z.natAbs < z.natAbs := Nat.mod_lt _ (by omega)
    have hr3 : (p.tmod z).natAbs ≤ p.natAbs := by rw [hr]; exact Nat.mod_le _ _
    have hdm := Int.mul_tdiv_add_tmod p z
    rw [e11, e12, fin_ok _ (wd _ (by omega)), fin_ok _ (wd _ (by omega))]
    simp only
    rw [if_neg (by decide), if_pos trivial, if_pos trivial]
    have hq : p.tdiv z * z = p - p.tmod z := by rw [Int.mul_comm]; omega
    have hqq : (p.tmod z).natAbs * (p.tmod z).natAbs < z.natAbs * z.natAbs := Nat.mul_self_lt_mul_self (by omega)
    have hzz := Dk.mul_bound (a := z) (b := z) (A := 32768) (B := 32768) (by omega) (by omega) (by omega) (by omega)
    have hrr : p.tmod z * p.tmod z < z * z := by
      have a1 := Int.natAbs_mul_self (a := p.tmod z)
      have a2 := Int.natAbs_mul_self (a := z)
      omega
    have hr0 : 0 ≤ p.tmod z * p.tmod z := by
      have a1 := Int.natAbs_mul_self (a := p.tmod z)
      omega
    have hrp := Dk.mul_bound (a := p.tmod z) (b := p) (A := 32768) (B := 1073741824) (by omega) (by omega) (by omega) (by omega)
    have hrp0 : 0 ≤ p.tmod z * p := by
      by_cases hp0 : 0 ≤ p
      · exact Int.mul_nonneg (Int.tmod_nonneg z hp0) hp0
      · have h1 := Int.tmod_nonneg z (a := -p) (by omega)
        rw [Int.neg_tmod] at h1
        have h2 := Int.mul_nonneg h1 (show 0 ≤ -p by omega)
        rw [Int.neg_mul_neg] at h2; exact h2
    rw [hq, Dk.wrap64_of (p - p.tmod z) (by omega), Dk.wrap64_of _ (by omega), if_pos (by omega), Dk.wrap64_of _ (by omega), Dk.wrap64_of _ (by omega), if_pos hrr, Dk.wrap64_of _ (by omega), decide_eq_true hrp0]

end Go.Proofs.Ytpnldhimlpilhaa.Pure
