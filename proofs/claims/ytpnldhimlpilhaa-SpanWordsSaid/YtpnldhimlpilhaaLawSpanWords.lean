/- Written by wip/myprint.py of this session, out of Lean's print of the program: what Go functions come to, and that their calls come to it; no condition. -/
import Derived.Test.YtpnldhimlpilhaaRows
import Derived.Test.YtpnldhimlpilhaaFlawSpanWords1
import Derived.Test.YtpnldhimlpilhaaPureSpanWords
import Derived.Test.YtpnldhimlpilhaaOp
import Derived.WalkKit
import Derived.ProofKit
import Derived.OpenShut
import Derived.ShutString
import Derived.ChangeOld
import Derived.Below
import Derived.SizedLaws
namespace Go.Proofs.Ytpnldhimlpilhaa.spanWords
open Go.ChangeShapes Go.WideShapes Go.ChangeAt Go.RowKit Go.Proofs.Ytpnldhimlpilhaa.F Go.Proofs.YtpnldhimlpilhaaW.PrintWords Go.Proofs.YtpnldhimlpilhaaW.PrintLast Go.Proofs.YtpnldhimlpilhaaW
open Go.ChangeMaps (open_string shut_string)
set_option linter.unusedVariables false
set_option linter.unusedSimpArgs false
theorem own : ownKnob Try.prog.godebug = none := by kernel_rfl
theorem laidOut : laidOutB Try.prog = true := by kernel_rfl
def opnQ47 (W : World) (cs : List Value) : Prop := ∃ (x0 : Int) (x1 : Int), cs = [.int .i64 x0, .int .i64 x1] ∧ (Lit.int .i64 x0).wf = true ∧ (Lit.int .i64 x1).wf = true
theorem opn47 : Op.Opn Try.prog 47 opnQ47 := by
  intro H enc W fuel cs x h hw
  obtain ⟨hl, q0, q1, _⟩ := Op.opn_struct Try.underlying47 [(fun _ cs => ∃ a, cs = [.int .i64 a] ∧ (Lit.int .i64 a).wf = true), (fun _ cs => ∃ a, cs = [.int .i64 a] ∧ (Lit.int .i64 a).wf = true)] ⟨(Op.opn_int Try.underlying3), (Op.opn_int Try.underlying3), trivial⟩ H enc W fuel cs x h hw
  have hl' : cs.length = 2 := hl.trans (by kernel_rfl)
  obtain ⟨v0, v1, rfl⟩ := Op.len2 cs hl'
  rw [show Try.prog.cellsOf _ = 1 from (by kernel_rfl : Try.prog.cellsOf 3 = 1)] at q0
  replace q0 : (fun _ cs => ∃ a, cs = [.int .i64 a] ∧ (Lit.int .i64 a).wf = true) W [v0] := q0
  obtain ⟨x0, e0, o0⟩ := q0
  simp only [List.cons.injEq, and_true] at e0
  obtain rfl := e0
  rw [show Try.prog.cellsOf _ = 1 from (by kernel_rfl : Try.prog.cellsOf 3 = 1)] at q1
  replace q1 : (fun _ cs => ∃ a, cs = [.int .i64 a] ∧ (Lit.int .i64 a).wf = true) W [v1] := q1
  obtain ⟨x1, e1, o1⟩ := q1
  simp only [List.cons.injEq, and_true] at e1
  obtain rfl := e1
  exact ⟨x0, x1, rfl, o0, o1⟩
set_option maxRecDepth 100000 in
theorem lifted (os : Os) (started : os.Started) (H : Type) (enc : TypeId × Value → H) :
    ReturnsInHanded {} Try.checked os 11 .any (Rows.spanWordsSpec.pre6 enc Try.prog Try.f11 Rows.spanWordsRow.domain false) (Rows.spanWordsSpec.post enc Try.prog Try.f11 false true false false) := by
  refine returnsInHanded_of_change_sized (C := Try.checked) own started (by kernel_rfl) Try.func11
    (ChangeSpec.witness6 (enc := enc) (C := Try.checked) false ⟨#[], #[.agg #[.int .i64 0, .int .i64 0], .agg #[.int .i64 0, .int .i64 0], .int .i64 0], []⟩ 8 (by kernel_rfl) (by kernel_rfl) (by kernel_rfl) (by kernel_rfl)) ?_
  intro W base args ds gs before hval0 hW hcnd hsz0 _
  have hsz : (DataW.weightsEach Try.prog (Try.f11.params.toList ++ Rows.spanWordsSpec.plain.varTypes Try.prog) (ds ++ gs)).all (· ≤ reachBytes) = true := hsz0
  have hval : ∀ (j : Nat) t v, Try.f11.params[j]? = some t → args[j]? = some v → Value.okWide Try.prog W .any base t v := hval0
  have hW' := hW
  obtain ⟨p, q, hA0, hV, rfl, hfz, hnd⟩ := hW
  have hA : DataW.TrodAll enc Try.prog W 0 (fun _ => true) true Try.f11.params.toList args.toList ds p := hA0
  rw [Try.params11] at hA hval hsz
  obtain ⟨v0, vs0, d0, ds0, p0, q0, hargs, rfl, rfl, h0, r0⟩ := trodAll_cons hA
  obtain ⟨v1, vs1, d1, ds1, p1, q1, rfl, rfl, rfl, h1, r1⟩ := trodAll_cons r0
  obtain ⟨v2, vs2, d2, ds2, p2, q2, rfl, rfl, rfl, h2, r2⟩ := trodAll_cons r1
  obtain ⟨rfl, rfl, rfl⟩ := trodAll_nil r2
  obtain rfl : args = #[v0, v1, v2] := by cases args; simp_all
  obtain ⟨rfl, rfl⟩ := trodVars_none hV
  have k0 := h0
  have lt0 : ∀ x ∈ p0, x.block < W.heap.size := Op.trod_lt k0
  obtain ⟨cs0, rfl, z0⟩ := Op.opn_agg opn47 (hval 0 47 v0 rfl rfl) (.inl ⟨_, Try.underlying47⟩) h0 hsz (j := 0) rfl rfl
  obtain ⟨x0_0, x0_1, rfl, o0_0, o0_1⟩ := z0
  have k1 := h1
  have lt1 : ∀ x ∈ p1, x.block < W.heap.size := Op.trod_lt k1
  obtain ⟨cs1, rfl, z1⟩ := Op.opn_agg opn47 (hval 1 47 v1 rfl rfl) (.inl ⟨_, Try.underlying47⟩) h1 hsz (j := 1) rfl rfl
  obtain ⟨x1_0, x1_1, rfl, o1_0, o1_1⟩ := z1
  obtain ⟨a2, rfl, rfl, rfl, w2⟩ := open_int Try.underlying3 (hval 2 3 v2 rfl rfl) h2
  clear hA0 hval0 hsz0 hsz
  refine (F.damasklaw05_SpanWords.walk Pure.SpanWords x0_0 x0_1 x1_0 x1_1 a2 W o0_0 o0_1 o1_0 o1_1 w2).mono fun e W' ⟨he, bel⟩ => ?_
  subst he
  exact ⟨_, rfl, _, _, _, [], _, [], hW', trodAll_mk1 (shut_bool Try.underlying4 _), (trodAll_cons_mk (Below.trod laidOut (by kernel_rfl) (of_decide_eq_true (by kernel_rfl)) k0 bel lt0) (trodAll_cons_mk (Below.trod laidOut (by kernel_rfl) (of_decide_eq_true (by kernel_rfl)) k1 bel lt1) (trodAll_cons_mk (shut_int Try.underlying3 w2) trodAll_mk0))), rfl, bel.frame _, fun h => by cases h⟩
theorem over : Rows.spanWordsRow.holds Try.pinned (OpenSpec.ofChange Rows.spanWordsSpec) :=
  OpenClaim.holds_of_wide 11 Try.f11 rfl rfl rfl rfl rfl rfl rfl ⟨rfl, rfl, rfl, rfl, rfl⟩ rfl rfl rfl rfl rfl (by kernel_rfl) Try.func11 (by kernel_rfl)
    (of_decide_eq_true (by kernel_rfl)) (by unfold Func.isWrapper; first | (rw [if_pos (by decide +kernel)]; kernel_rfl) | (rw [if_neg (by decide +kernel)]; exact ⟨rfl, rfl⟩))
    (fun os started H enc _ => lifted os started H enc)
theorem proved : Rows.SpanWordsSaid := over
#print axioms proved
end Go.Proofs.Ytpnldhimlpilhaa.spanWords
namespace Go.Proofs.Ytpnldhimlpilhaa
/-- The row, under a short name, for the claim. -/
theorem spanWords_holds : Rows.SpanWordsSaid := spanWords.proved
end Go.Proofs.Ytpnldhimlpilhaa
