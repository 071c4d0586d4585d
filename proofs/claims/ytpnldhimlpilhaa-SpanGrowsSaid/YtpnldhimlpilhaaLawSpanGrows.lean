/- Written by wip/myprint.py of this session, out of Lean's print of the program: what Go functions come to, and that their calls come to it; no condition. -/
import Derived.Test.YtpnldhimlpilhaaRows
import Derived.Test.YtpnldhimlpilhaaFlawSpanGrows1
import Derived.Test.YtpnldhimlpilhaaPureSpanGrows
import Derived.Test.YtpnldhimlpilhaaOp
import Derived.WalkKit
import Derived.ProofKit
import Derived.OpenShut
import Derived.ShutString
import Derived.ChangeOld
import Derived.Below
import Derived.SizedLaws
namespace Go.Proofs.Ytpnldhimlpilhaa.spanGrows
open Go.ChangeShapes Go.WideShapes Go.ChangeAt Go.RowKit Go.Proofs.Ytpnldhimlpilhaa.F Go.Proofs.YtpnldhimlpilhaaW.PrintWords Go.Proofs.YtpnldhimlpilhaaW.PrintLast Go.Proofs.YtpnldhimlpilhaaW
open Go.ChangeMaps (open_string shut_string)
set_option linter.unusedVariables false
set_option linter.unusedSimpArgs false
theorem own : ownKnob Try.prog.godebug = none := by kernel_rfl
theorem laidOut : laidOutB Try.prog = true := by kernel_rfl
def opnQ47 (W : World) (cs : List Value) : Prop := ∃ (x0 : Int) (x1 : Int), cs = [.int .i64 x0, .int .i64 x1] ∧ (Lit.int .i64 x0).wf = true ∧ (Lit.int .i64 x1).wf = true
theorem opn47 : Op.Opn Try.prog 47 opnQ47 := by
  intro H enc W fuel cs x h hw
  obtain ⟨hl, q0, q1, _⟩ := Op.opn_struct Try.underlying47 [(fun _ cs => ∃ a, cs = [.int .i64 a] ∧ (Lit.int .i64 a).wf = true), (fun _ cs => ∃ a, cs = [.int .i64 a] ∧ (Lit.int .i64 a).wf = true)] ⟨(Op.opn_int Try.underlying3), (Op.opn_int Try.underlying3), trivial⟩ H enc W fuel cs x h hw
  have hl' : cs.length = 2 := hl.trans (by kernel_rfl)
  obtain ⟨v0, v1, rfl⟩ := Op.len2 cs hl'
  rw [show Try.prog.cellsOf _ = 1 from (by kernel_rfl : Try.prog.cellsOf 3 = 1)] at q0
  replace q0 : (fun _ cs => ∃ a, cs = [.int .i64 a] ∧ (Lit.int .i64 a).wf = true) W [v0] := q0
  obtain ⟨x0, e0, o0⟩ := q0
  simp only [List.cons.injEq, and_true] at e0
  obtain rfl := e0
  rw [show Try.prog.cellsOf _ = 1 from (by kernel_rfl : Try.prog.cellsOf 3 = 1)] at q1
  replace q1 : (fun _ cs => ∃ a, cs = [.int .i64 a] ∧ (Lit.int .i64 a).wf = true) W [v1] := q1
  obtain ⟨x1, e1, o1⟩ := q1
  simp only [List.cons.injEq, and_true] at e1
  obtain rfl := e1
  exact ⟨x0, x1, rfl, o0, o1⟩
def opnQ45 (W : World) (cs : List Value) : Prop := ∃ (x0 : Int) (x1 : Int) (x2 : Int) (A3 : Option Addr) (c3 : Nat) (l3 : List (S47)), cs = [.int .i64 x0, .int .i64 x1, .int .i64 x2, .slice A3 l3.length c3] ∧ (Lit.int .i64 x0).wf = true ∧ (Lit.int .i64 x1).wf = true ∧ (Lit.int .i64 x2).wf = true ∧ Kd.C k47 W A3 l3.length l3 ∧ l3.length ≤ c3 ∧ l3.length ≤ maxLen ∧ l3.length * 16 ≤ 140737488351232 ∧ (∀ x ∈ l3, (Lit.int .i64 x.f0).wf = true ∧ (Lit.int .i64 x.f1).wf = true)
theorem opn45 : Op.Opn Try.prog 45 opnQ45 := by
  intro H enc W fuel cs x h hw
  obtain ⟨hl, q0, q1, q2, q3, _⟩ := Op.opn_struct Try.underlying45 [(fun _ cs => ∃ a, cs = [.int .i64 a] ∧ (Lit.int .i64 a).wf = true), (fun _ cs => ∃ a, cs = [.int .i64 a] ∧ (Lit.int .i64 a).wf = true), (fun _ cs => ∃ a, cs = [.int .i64 a] ∧ (Lit.int .i64 a).wf = true), (Op.SliceQ k47 16 (fun x => (Lit.int .i64 x.f0).wf = true ∧ (Lit.int .i64 x.f1).wf = true))] ⟨(Op.opn_int Try.underlying3), (Op.opn_int Try.underlying3), (Op.opn_int Try.underlying3), (Op.opn_slice k47 (fun x => (Lit.int .i64 x.f0).wf = true ∧ (Lit.int .i64 x.f1).wf = true) 2 16 Try.underlying43 (by kernel_rfl) rfl (by kernel_rfl) (fun H enc W fuel cs x h hw => by obtain ⟨x0, x1, rfl, o0, o1⟩ := opn47 H enc W fuel cs x h hw; exact ⟨(⟨x0, x1⟩ : S47), k47_mk W _ , ⟨o0, o1⟩⟩)), trivial⟩ H enc W fuel cs x h hw
  have hl' : cs.length = 4 := hl.trans (by kernel_rfl)
  obtain ⟨v0, v1, v2, v3, rfl⟩ := Op.len4 cs hl'
  rw [show Try.prog.cellsOf _ = 1 from (by kernel_rfl : Try.prog.cellsOf 3 = 1)] at q0
  replace q0 : (fun _ cs => ∃ a, cs = [.int .i64 a] ∧ (Lit.int .i64 a).wf = true) W [v0] := q0
  obtain ⟨x0, e0, o0⟩ := q0
  simp only [List.cons.injEq, and_true] at e0
  obtain rfl := e0
  rw [show Try.prog.cellsOf _ = 1 from (by kernel_rfl : Try.prog.cellsOf 3 = 1)] at q1
  replace q1 : (fun _ cs => ∃ a, cs = [.int .i64 a] ∧ (Lit.int .i64 a).wf = true) W [v1] := q1
  obtain ⟨x1, e1, o1⟩ := q1
  simp only [List.cons.injEq, and_true] at e1
  obtain rfl := e1
  rw [show Try.prog.cellsOf _ = 1 from (by kernel_rfl : Try.prog.cellsOf 3 = 1)] at q2
  replace q2 : (fun _ cs => ∃ a, cs = [.int .i64 a] ∧ (Lit.int .i64 a).wf = true) W [v2] := q2
  obtain ⟨x2, e2, o2⟩ := q2
  simp only [List.cons.injEq, and_true] at e2
  obtain rfl := e2
  rw [show Try.prog.cellsOf _ = 1 from (by kernel_rfl : Try.prog.cellsOf 43 = 1)] at q3
  replace q3 : (Op.SliceQ k47 16 (fun x => (Lit.int .i64 x.f0).wf = true ∧ (Lit.int .i64 x.f1).wf = true)) W [v3] := q3
  obtain ⟨A3, c3, l3, e3, cc3, m3, b3, r3, o3⟩ := q3
  obtain rfl : v3 = _ := (List.cons.inj e3).1
  exact ⟨x0, x1, x2, A3, c3, l3, rfl, o0, o1, o2, r3, cc3, m3, b3, o3⟩
def opnQ57 (W : World) (cs : List Value) : Prop := ∃ (x0 : Int) (x1 : Int) (x2 : Int) (x3 : Int) (x4 : Int) (x5 : Int), cs = [.int .i64 x0, .int .i64 x1, .int .i64 x2, .int .i64 x3, .int .i64 x4, .int .i64 x5] ∧ (Lit.int .i64 x0).wf = true ∧ (Lit.int .i64 x1).wf = true ∧ (Lit.int .i64 x2).wf = true ∧ (Lit.int .i64 x3).wf = true ∧ (Lit.int .i64 x4).wf = true ∧ (Lit.int .i64 x5).wf = true
theorem opn57 : Op.Opn Try.prog 57 opnQ57 := by
  intro H enc W fuel cs x h hw
  obtain ⟨hl, hq⟩ := Op.opn_array Try.underlying57 (fun _ cs => ∃ a, cs = [.int .i64 a] ∧ (Lit.int .i64 a).wf = true) (Op.opn_int Try.underlying3) H enc W fuel cs x h hw
  have hl' : cs.length = 6 := hl.trans (by kernel_rfl)
  obtain ⟨v0, v1, v2, v3, v4, v5, rfl⟩ := Op.len6 cs hl'
  have q0 := hq 0 (by decide)
  rw [show Try.prog.cellsOf 3 = 1 from by kernel_rfl] at q0
  replace q0 : (fun _ cs => ∃ a, cs = [.int .i64 a] ∧ (Lit.int .i64 a).wf = true) W [v0] := q0
  obtain ⟨x0, e0, o0⟩ := q0
  simp only [List.cons.injEq, and_true] at e0
  obtain rfl := e0
  have q1 := hq 1 (by decide)
  rw [show Try.prog.cellsOf 3 = 1 from by kernel_rfl] at q1
  replace q1 : (fun _ cs => ∃ a, cs = [.int .i64 a] ∧ (Lit.int .i64 a).wf = true) W [v1] := q1
  obtain ⟨x1, e1, o1⟩ := q1
  simp only [List.cons.injEq, and_true] at e1
  obtain rfl := e1
  have q2 := hq 2 (by decide)
  rw [show Try.prog.cellsOf 3 = 1 from by kernel_rfl] at q2
  replace q2 : (fun _ cs => ∃ a, cs = [.int .i64 a] ∧ (Lit.int .i64 a).wf = true) W [v2] := q2
  obtain ⟨x2, e2, o2⟩ := q2
  simp only [List.cons.injEq, and_true] at e2
  obtain rfl := e2
  have q3 := hq 3 (by decide)
  rw [show Try.prog.cellsOf 3 = 1 from by kernel_rfl] at q3
  replace q3 : (fun _ cs => ∃ a, cs = [.int .i64 a] ∧ (Lit.int .i64 a).wf = true) W [v3] := q3
  obtain ⟨x3, e3, o3⟩ := q3
  simp only [List.cons.injEq, and_true] at e3
  obtain rfl := e3
  have q4 := hq 4 (by decide)
  rw [show Try.prog.cellsOf 3 = 1 from by kernel_rfl] at q4
  replace q4 : (fun _ cs => ∃ a, cs = [.int .i64 a] ∧ (Lit.int .i64 a).wf = true) W [v4] := q4
  obtain ⟨x4, e4, o4⟩ := q4
  simp only [List.cons.injEq, and_true] at e4
  obtain rfl := e4
  have q5 := hq 5 (by decide)
  rw [show Try.prog.cellsOf 3 = 1 from by kernel_rfl] at q5
  replace q5 : (fun _ cs => ∃ a, cs = [.int .i64 a] ∧ (Lit.int .i64 a).wf = true) W [v5] := q5
  obtain ⟨x5, e5, o5⟩ := q5
  simp only [List.cons.injEq, and_true] at e5
  obtain rfl := e5
  exact ⟨x0, x1, x2, x3, x4, x5, rfl, o0, o1, o2, o3, o4, o5⟩
set_option maxRecDepth 100000 in
theorem lifted (os : Os) (started : os.Started) (H : Type) (enc : TypeId × Value → H) :
    ReturnsInHanded {} Try.checked os 12 .any (Rows.spanGrowsSpec.pre6 enc Try.prog Try.f12 Rows.spanGrowsRow.domain false) (Rows.spanGrowsSpec.post enc Try.prog Try.f12 false true false false) := by
  refine returnsInHanded_of_change_sized (C := Try.checked) own started (by kernel_rfl) Try.func12
    (ChangeSpec.witness6 (enc := enc) (C := Try.checked) false ⟨#[], #[.agg #[.int .i64 0, .int .i64 0, .int .i64 0, .slice none 0 0], .agg #[.int .i64 0, .int .i64 0, .int .i64 0, .int .i64 0, .int .i64 0, .int .i64 0]], []⟩ 8 (by kernel_rfl) (by kernel_rfl) (by kernel_rfl) (by kernel_rfl)) ?_
  intro W base args ds gs before hval0 hW hcnd hsz0 _
  have hsz : (DataW.weightsEach Try.prog (Try.f12.params.toList ++ Rows.spanGrowsSpec.plain.varTypes Try.prog) (ds ++ gs)).all (· ≤ reachBytes) = true := hsz0
  have hval : ∀ (j : Nat) t v, Try.f12.params[j]? = some t → args[j]? = some v → Value.okWide Try.prog W .any base t v := hval0
  have hW' := hW
  obtain ⟨p, q, hA0, hV, rfl, hfz, hnd⟩ := hW
  have hA : DataW.TrodAll enc Try.prog W 0 (fun _ => true) true Try.f12.params.toList args.toList ds p := hA0
  rw [Try.params12] at hA hval hsz
  obtain ⟨v0, vs0, d0, ds0, p0, q0, hargs, rfl, rfl, h0, r0⟩ := trodAll_cons hA
  obtain ⟨v1, vs1, d1, ds1, p1, q1, rfl, rfl, rfl, h1, r1⟩ := trodAll_cons r0
  obtain ⟨rfl, rfl, rfl⟩ := trodAll_nil r1
  obtain rfl : args = #[v0, v1] := by cases args; simp_all
  obtain ⟨rfl, rfl⟩ := trodVars_none hV
  have k0 := h0
  have lt0 : ∀ x ∈ p0, x.block < W.heap.size := Op.trod_lt k0
  obtain ⟨cs0, rfl, z0⟩ := Op.opn_agg opn45 (hval 0 45 v0 rfl rfl) (.inl ⟨_, Try.underlying45⟩) h0 hsz (j := 0) rfl rfl
  obtain ⟨x0_0, x0_1, x0_2, A0_3, c0_3, l0_3, rfl, o0_0, o0_1, o0_2, r0_3, cc0_3, m0_3, b0_3, o0_3⟩ := z0
  have k1 := h1
  have lt1 : ∀ x ∈ p1, x.block < W.heap.size := Op.trod_lt k1
  obtain ⟨cs1, rfl, z1⟩ := Op.opn_agg opn57 (hval 1 57 v1 rfl rfl) (.inr ⟨_, _, Try.underlying57⟩) h1 hsz (j := 1) rfl rfl
  obtain ⟨x1_0, x1_1, x1_2, x1_3, x1_4, x1_5, rfl, o1_0, o1_1, o1_2, o1_3, o1_4, o1_5⟩ := z1
  clear hA0 hval0 hsz0 hsz
  refine (F.damasklaw05_SpanGrows.walk Pure.SpanGrows x0_0 x0_1 x0_2 A0_3 c0_3 l0_3 x1_0 x1_1 x1_2 x1_3 x1_4 x1_5 W o0_0 o0_1 o0_2 r0_3 cc0_3 m0_3 b0_3 o0_3 o1_0 o1_1 o1_2 o1_3 o1_4 o1_5).mono fun e W' ⟨he, bel⟩ => ?_
  subst he
  exact ⟨_, rfl, _, _, _, [], _, [], hW', trodAll_mk1 (shut_bool Try.underlying4 _), (trodAll_cons_mk (Below.trod laidOut (by kernel_rfl) (of_decide_eq_true (by kernel_rfl)) k0 bel lt0) (trodAll_cons_mk (Below.trod laidOut (by kernel_rfl) (of_decide_eq_true (by kernel_rfl)) k1 bel lt1) trodAll_mk0)), rfl, bel.frame _, fun h => by cases h⟩
theorem over : Rows.spanGrowsRow.holds Try.pinned (OpenSpec.ofChange Rows.spanGrowsSpec) :=
  OpenClaim.holds_of_wide 12 Try.f12 rfl rfl rfl rfl rfl rfl rfl ⟨rfl, rfl, rfl, rfl, rfl⟩ rfl rfl rfl rfl rfl (by kernel_rfl) Try.func12 (by kernel_rfl)
    (of_decide_eq_true (by kernel_rfl)) (by unfold Func.isWrapper; first | (rw [if_pos (by decide +kernel)]; kernel_rfl) | (rw [if_neg (by decide +kernel)]; exact ⟨rfl, rfl⟩))
    (fun os started H enc _ => lifted os started H enc)
theorem proved : Rows.SpanGrowsSaid := over
#print axioms proved
end Go.Proofs.Ytpnldhimlpilhaa.spanGrows
namespace Go.Proofs.Ytpnldhimlpilhaa
/-- The row, under a short name, for the claim. -/
theorem spanGrows_holds : Rows.SpanGrowsSaid := spanGrows.proved
end Go.Proofs.Ytpnldhimlpilhaa
