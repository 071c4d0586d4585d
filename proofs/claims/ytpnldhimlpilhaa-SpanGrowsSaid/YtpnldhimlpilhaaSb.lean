/- What the printed functions of layer 4 come to, by the plain words: names, constants. -/
import Derived.Test.YtpnldhimlpilhaaFarith1
import Derived.Test.YtpnldhimlpilhaaFdamaskref041
import Derived.Test.YtpnldhimlpilhaaSa
namespace Go.Proofs.Ytpnldhimlpilhaa.Pure
open Go.RowKit Go.Proofs.Ytpnldhimlpilhaa.F Go.Proofs.YtpnldhimlpilhaaW.PrintWords Go.Proofs.YtpnldhimlpilhaaW.PrintLast Go.Proofs.YtpnldhimlpilhaaW.PrintMore

theorem arity_code (k : Nat) (op : Int) : arith_Arity.f (k + 3) op = some (Dk.arity op) := by
  by_cases h : 1 ≤ op ∧ op ≤ 33
  · rcases Dk.op_cases op h with rfl | rfl | rfl | rfl | rfl | rfl | rfl | rfl | rfl | rfl | rfl | rfl | rfl | rfl | rfl | rfl | rfl | rfl | rfl | rfl | rfl | rfl | rfl | rfl | rfl | rfl | rfl | rfl | rfl | rfl | rfl | rfl | rfl <;> rfl
  · obtain ⟨h1, h2, h3, h4, h5, h6, h7, h8, h9, h10, h11, h12, h13, h14, h15, h16, h17, h18, h19, h20, h21, h22, h23, h24, h25, h26, h27, h28, h29, h30, h31, h32, h33⟩ := Dk.op_out op h
    simp only [arith_Arity.f, arith_Arity.j0, arith_Arity.j1, arith_Arity.j2, beq_eq_false_iff_ne.mpr h1, beq_eq_false_iff_ne.mpr h2, beq_eq_false_iff_ne.mpr h3, beq_eq_false_iff_ne.mpr h5, beq_eq_false_iff_ne.mpr h33, beq_eq_false_iff_ne.mpr h28, if_neg h1, if_neg h2, if_neg h5, if_neg h6, if_neg h7, if_neg h29, if_neg h30, if_neg h31, if_neg h32, if_neg h26, if_neg h27, Bool.false_eq_true, if_false]
    unfold Dk.arity
    repeat' split
    all_goals first | rfl | (exfalso; omega)
theorem ref_arity_code (k : Nat) (op : Int) : damaskref04_Arity.f (k + 3) op = some (Dk.arity op) := by
  simp only [damaskref04_Arity.f, damaskref04_Arity.j0, damaskref04_Arity.j1, Dk.arity, decide_eq_true_iff]
  repeat' split
  all_goals first | rfl | (exfalso; first | omega | contradiction)
theorem word_code (x : Int) : arith_Word.f x = some (Dk.word x) := by rw [arith_Word.f, Dk.word_wrap]
theorem ref_word_code (x : Int) : damaskref04_Word.f x = some (Dk.word x) := by
  unfold damaskref04_Word.f Dk.word
  split
  · congr 1; rw [Bool.eq_iff_iff]; simp only [decide_eq_true_iff]; omega
  · congr 1; rw [Bool.eq_iff_iff]; simp only [decide_eq_true_iff]; simp; omega
theorem consts_code (k : Nat) (op a s : Int) : arith_Constants.f (k + 3) op a s = some (Dk.consts op a s) := by
  simp only [arith_Constants.f, arith_Constants.j0, Dk.consts, beq_iff_eq, word_code, Option.bind_some, Dk.word]
  repeat' split
  all_goals first | rfl | (exfalso; omega) | (congr 1; rw [Bool.eq_iff_iff]; simp only [decide_eq_true_iff]; omega) | (congr 1; symm; rw [decide_eq_false_iff_not]; omega)
theorem ref_consts_code (k : Nat) (op a s : Int) : damaskref04_Constants.f (k + 3) op a s = some (Dk.consts op a s) := by
  simp only [damaskref04_Constants.f, damaskref04_Constants.j0, Dk.consts, beq_iff_eq, ref_word_code, Option.bind_some, Dk.word]
  repeat' split
  all_goals first | rfl | (exfalso; omega) | (congr 1; rw [Bool.eq_iff_iff]; simp only [decide_eq_true_iff]; omega) | (congr 1; symm; rw [decide_eq_false_iff_not]; omega)
end Go.Proofs.Ytpnldhimlpilhaa.Pure
