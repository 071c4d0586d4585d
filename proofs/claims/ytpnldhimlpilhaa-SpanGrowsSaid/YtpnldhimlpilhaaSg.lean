/- What the statements of layer 4 ask of a value that there must be. -/
import Derived.Test.YtpnldhimlpilhaaSc
import Derived.Test.YtpnldhimlpilhaaSd
import Derived.Test.YtpnldhimlpilhaaFdamasklaw041
namespace Go.Proofs.Ytpnldhimlpilhaa.Pure
open Go.RowKit Go.Proofs.Ytpnldhimlpilhaa.F Go.Proofs.YtpnldhimlpilhaaW.PrintWords Go.Proofs.YtpnldhimlpilhaaW.PrintLast Go.Proofs.YtpnldhimlpilhaaW.PrintMore

theorem of_code (k : Nat) (op : Int) (l : List Int) : damasklaw04_of.f (k + 8) op l = some ((Dk.value op 0 0 l).1, (Dk.value op 0 0 l).2 == 0) := by
  unfold damasklaw04_of.f; rw [Value_code]; rfl
theorem value_one (op k s a : Int) (ha : Dk.arity op = 1) (hc : Dk.consts op k s = true) (hx : Dk.word a = true) : Dk.value op k s [a] = Dk.fin (Dk.val1 op k s a) := by
  unfold Dk.value; rw [if_neg]; simp [hx, hc, ha]
theorem value_two (op k s a b : Int) (ha : Dk.arity op = 2) (hc : Dk.consts op k s = true) (hx : Dk.word a = true) (hy : Dk.word b = true) : Dk.value op k s [a, b] = Dk.fin (Dk.val2 op a b) := by
  unfold Dk.value; rw [if_neg]; simp [hx, hy, hc, ha]
theorem value_three (op k s a b c : Int) (ha : Dk.arity op = 3) (hc : Dk.consts op k s = true) (hx : Dk.word a = true) (hy : Dk.word b = true) (hz : Dk.word c = true) : Dk.value op k s [a, b, c] = Dk.fin (Dk.val3 op a b c, 0) := by
  unfold Dk.value; rw [if_neg]; simp [hx, hy, hz, hc, ha]
theorem fin_ok (x : Int) (h : Dk.word x = true) : Dk.fin (x, 0) = (x, 0) := by unfold Dk.fin; rw [if_pos rfl, if_pos h]
theorem fin_no (x : Int) (h : Dk.word x = false) : Dk.fin (x, 0) = (0, 13) := by unfold Dk.fin; rw [if_pos rfl, if_neg (by simp [h])]
theorem wd (x : Int) (h : -2147483648 ≤ x ∧ x ≤ 2147483647) : Dk.word x = true := (Dk.word_iff x).mpr h
/-- a value that there must be, of two: its number -/
theorem of_two (k : Nat) (op a b x : Int) (ha : Dk.arity op = 2) (hc : Dk.consts op 0 0 = true) (hx : Dk.word a = true) (hy : Dk.word b = true) (hv : Dk.val2 op a b = (x, 0)) (hw : Dk.word x = true) : damasklaw04_of.f (k + 8) op [a, b] = some (x, true) := by
  rw [of_code, value_two op 0 0 a b ha hc hx hy, hv, fin_ok x hw]; rfl
theorem of_one (k : Nat) (op a x : Int) (ha : Dk.arity op = 1) (hc : Dk.consts op 0 0 = true) (hx : Dk.word a = true) (hv : Dk.val1 op 0 0 a = (x, 0)) (hw : Dk.word x = true) : damasklaw04_of.f (k + 8) op [a] = some (x, true) := by
  rw [of_code, value_one op 0 0 a ha hc hx, hv, fin_ok x hw]; rfl
theorem of_three (k : Nat) (op a b c x : Int) (ha : Dk.arity op = 3) (hc : Dk.consts op 0 0 = true) (hx : Dk.word a = true) (hy : Dk.word b = true) (hz : Dk.word c = true) (hv : Dk.val3 op a b c = x) (hw : Dk.word x = true) : damasklaw04_of.f (k + 8) op [a, b, c] = some (x, true) := by
  rw [of_code, value_three op 0 0 a b c ha hc hx hy hz, hv, fin_ok x hw]; rfl
theorem wf32 (x : Int) : (Lit.int .i32 x).wf = true ↔ -2147483648 ≤ x ∧ x ≤ 2147483647 := by
  simp [Lit.wf, IntKind.min, IntKind.max, IntKind.bits, IntKind.signed]
theorem wf16 (x : Int) : (Lit.int .i16 x).wf = true ↔ -32768 ≤ x ∧ x ≤ 32767 := by
  simp [Lit.wf, IntKind.min, IntKind.max, IntKind.bits, IntKind.signed]
theorem wfu8 (x : Int) : (Lit.int .u8 x).wf = true ↔ 0 ≤ x ∧ x ≤ 255 := by
  simp [Lit.wf, IntKind.min, IntKind.max, IntKind.bits, IntKind.signed]
theorem wfu32 (x : Int) : (Lit.int .u32 x).wf = true ↔ 0 ≤ x ∧ x ≤ 4294967295 := by
  simp [Lit.wf, IntKind.min, IntKind.max, IntKind.bits, IntKind.signed]
end Go.Proofs.Ytpnldhimlpilhaa.Pure
