/- The statement ArithScaled of layer 4 (scaled products): for all arguments, no condition. -/
import Derived.Test.YtpnldhimlpilhaaSg
import Derived.Test.YtpnldhimlpilhaaFlawArithScaled1
namespace Go.Proofs.Ytpnldhimlpilhaa.Pure
open Go.RowKit Go.Proofs.Ytpnldhimlpilhaa.F Go.Proofs.YtpnldhimlpilhaaW.PrintWords Go.Proofs.YtpnldhimlpilhaaW.PrintLast Go.Proofs.YtpnldhimlpilhaaW.PrintMore

theorem ArithScaled : damasklaw04_ArithScaled.Pure := by
  intro x m n hx hm hn
  rw [wf32] at hx; rw [wfu32] at hm; rw [wfu8] at hn
  refine ⟨20, ?_⟩
  have hs : Int.tmod n 63 = n % 63 := Int.tmod_eq_emod_of_nonneg hn.1
  unfold damasklaw04_ArithScaled.f
  rw [Dk.wrap64_of x (by omega), Dk.wrap64_of m (by omega), hs, Dk.wrap64_of (n % 63) (by omega)]
  generalize hq : n % 63 = s
  have hs2 : 0 ≤ s ∧ s ≤ 62 := by omega
  have hp := Dk.pow_le62 s.toNat (by omega)
  have hpr := Dk.mul_bound (a := x) (b := m) (A := 2147483648) (B := 4294967295) (by omega) (by omega) (by omega) (by omega)
  rw [Value_code 12, awake_code 12]
  simp only [Option.bind_some, if_true]
  by_cases h0 : m = 0
  · subst h0
    have e : Dk.value 33 0 s [x] = (0, 1) := by unfold Dk.value; rw [if_pos]; right; right; left; simp [Dk.consts]
    rw [e]
    show ((damasklaw04_awake.f 19).bind _) = _
    rw [awake_code 11]; rfl
  · have hc : Dk.consts 33 m s = true := by simp [Dk.consts]; omega
    rw [value_one 33 m s x rfl hc (wd _ hx)]
    have e1 : Dk.val1 33 m s x = if x ≠ 0 ∧ m > 4611686018427387904 / max x (-x) then (0, 13) else (x * m / 2 ^ s.toNat, 0) := rfl
    rw [show (m == 0) = false by simp [h0]]
    have e3 : ∀ p : Int × Int, damasklaw04_ArithScaled.j0 20 x m s p.1 p.2 false = if wrap64 (x * (m / 4)) > 576460752303423488 then damasklaw04_ArithScaled.j1 19 x m s p.1 p.2 true else damasklaw04_ArithScaled.j1 19 x m s p.1 p.2 (decide (wrap64 (x * (m / 4)) < -576460752303423488)) := fun p => rfl
    rw [e3]
    have hq4 : wrap64 (x * (m / 4)) = x * (m / 4) := by
      have := Dk.mul_bound (a := x) (b := m / 4) (A := 2147483648) (B := 1073741824) (by omega) (by omega) (by omega) (by omega)
      exact Dk.wrap64_of _ (by omega)
    rw [hq4]
    -- what the value may be, whatever the product
    have hany : (Dk.fin (Dk.val1 33 m s x)).2 = 0 ∨ (Dk.fin (Dk.val1 33 m s x)) = (0, 13) := by
      rw [e1]
      split
      · right; rfl
      · unfold Dk.fin
        rw [if_pos rfl]
        split
        · left; rfl
        · right; rfl
    have any1 : ∀ k, damasklaw04_ArithScaled.j1 (k + 1) x m s (Dk.fin (Dk.val1 33 m s x)).1 (Dk.fin (Dk.val1 33 m s x)).2 true = some true := by
      intro k
      have e5 : ∀ p : Int × Int, damasklaw04_ArithScaled.j1 (k + 1) x m s p.1 p.2 true = if p.2 = 0 then some true else if p.2 = 13 then some (p.1 == 0) else some false := fun p => rfl
      rw [e5]
      rcases hany with h | h
      · rw [if_pos h]
      · rw [h]; rfl
    by_cases hbig : x * (m / 4) > 576460752303423488
    · rw [if_pos hbig]; exact any1 18
    · rw [if_neg hbig]
      by_cases hlow : x * (m / 4) < -576460752303423488
      · rw [decide_eq_true hlow]; exact any1 18
      · rw [decide_eq_false hlow]
        -- the product has at most 2^61 + 2^33 in size
        have h4 : m = 4 * (m / 4) + m % 4 := by omega
        have h5 : x * m = 4 * (x * (m / 4)) + x * (m % 4) := by
          conv => lhs; rw [h4]
          rw [Int.mul_add, ← Int.mul_assoc, Int.mul_comm x 4, Int.mul_assoc]
        have h6 := Dk.mul_bound (a := x) (b := m % 4) (A := 2147483648) (B := 3) (by omega) (by omega) (by omega) (by omega)
        have hfit : ¬ (x ≠ 0 ∧ m > 4611686018427387904 / max x (-x)) := by
          intro ⟨hx0, hgt⟩
          have g1 := (Int.ediv_lt_iff_lt_mul (show 0 < max x (-x) by omega)).mp hgt
          have g2 : (x * m).natAbs = m.natAbs * (max x (-x)).natAbs := by rw [Int.natAbs_mul, Nat.mul_comm]; congr 1; omega
          have g3 : ((m.natAbs * (max x (-x)).natAbs : Nat) : Int) = m * max x (-x) := by rw [Int.natCast_mul, Int.natAbs_of_nonneg (by omega), Int.natAbs_of_nonneg (by omega)]
          omega
        rw [e1, if_neg hfit]
        have e4 : ∀ p : Int × Int, damasklaw04_ArithScaled.j1 19 x m s p.1 p.2 false = if 0 ≤ s then (if shr .i64 (wrap64 (x * m)) s = wrap64 (wrap32 (shr .i64 (wrap64 (x * m)) s)) then (if p.2 = 0 then some (p.1 == shr .i64 (wrap64 (x * m)) s) else some false) else (if p.2 = 13 then some (p.1 == 0) else some false)) else none := fun p => rfl
        rw [e4, if_pos hs2.1, Dk.wrap64_of (x * m) (by omega), shr_code _ _ hs2]
        have hw := Dk.word_wrap (x * m / 2 ^ s.toNat)
        cases hwd : Dk.word (x * m / 2 ^ s.toNat)
        · rw [hwd] at hw
          have hne : ¬ (x * m / 2 ^ s.toNat = wrap64 (wrap32 (x * m / 2 ^ s.toNat))) := fun h => by rw [← h] at hw; simp at hw
          rw [if_neg hne, fin_no _ hwd]; rfl
        · rw [hwd] at hw
          rw [if_pos (beq_iff_eq.mp hw).symm, fin_ok _ hwd]
          simp

end Go.Proofs.Ytpnldhimlpilhaa.Pure
