/- Written by wip/myprint.py of this session, out of Lean's print of the program: what Go functions come to, and that their calls come to it; no condition. -/
import Derived.Test.YtggfgbhodkfllaaRows
import Derived.Test.YtggfgbhodkfllaaFlawSignalRound1
import Derived.Test.YtggfgbhodkfllaaPureSignalRound
import Derived.Test.YtggfgbhodkfllaaOp
import Derived.WalkKit
import Derived.ProofKit
import Derived.OpenShut
import Derived.ShutString
import Derived.ChangeOld
import Derived.Below
import Derived.SizedLaws
namespace Go.Proofs.Ytggfgbhodkfllaa.signalRound
open Go.ChangeShapes Go.WideShapes Go.ChangeAt Go.RowKit Go.Proofs.Ytggfgbhodkfllaa.F Go.Proofs.YtggfgbhodkfllaaW.PrintWords Go.Proofs.YtggfgbhodkfllaaW.PrintLast Go.Proofs.YtggfgbhodkfllaaW
open Go.ChangeMaps (open_string shut_string)
set_option linter.unusedVariables false
set_option linter.unusedSimpArgs false
theorem own : ownKnob Try.prog.godebug = none := by kernel_rfl
theorem laidOut : laidOutB Try.prog = true := by kernel_rfl
def opnQ23 (W : World) (cs : List Value) : Prop := ∃ (x0 : Int) (x1 : Int), cs = [.int .i64 x0, .int .i64 x1] ∧ (Lit.int .i64 x0).wf = true ∧ (Lit.int .i64 x1).wf = true
theorem opn23 : Op.Opn Try.prog 23 opnQ23 := by
  intro H enc W fuel cs x h hw
  obtain ⟨hl, q0, q1, _⟩ := Op.opn_struct Try.underlying23 [(fun _ cs => ∃ a, cs = [.int .i64 a] ∧ (Lit.int .i64 a).wf = true), (fun _ cs => ∃ a, cs = [.int .i64 a] ∧ (Lit.int .i64 a).wf = true)] ⟨(Op.opn_int Try.underlying3), (Op.opn_int Try.underlying3), trivial⟩ H enc W fuel cs x h hw
  have hl' : cs.length = 2 := hl.trans (by kernel_rfl)
  obtain ⟨v0, v1, rfl⟩ := Op.len2 cs hl'
  rw [show Try.prog.cellsOf _ = 1 from (by kernel_rfl : Try.prog.cellsOf 3 = 1)] at q0
  replace q0 : (fun _ cs => ∃ a, cs = [.int .i64 a] ∧ (Lit.int .i64 a).wf = true) W [v0] := q0
  obtain ⟨x0, e0, o0⟩ := q0
  simp only [List.cons.injEq, and_true] at e0
  obtain rfl := e0
  rw [show Try.prog.cellsOf _ = 1 from (by kernel_rfl : Try.prog.cellsOf 3 = 1)] at q1
  replace q1 : (fun _ cs => ∃ a, cs = [.int .i64 a] ∧ (Lit.int .i64 a).wf = true) W [v1] := q1
  obtain ⟨x1, e1, o1⟩ := q1
  simp only [List.cons.injEq, and_true] at e1
  obtain rfl := e1
  exact ⟨x0, x1, rfl, o0, o1⟩
def opnQ26 (W : World) (cs : List Value) : Prop := ∃ (x0 : Int) (x1 : Int) (x2 : Int) (x3 : Int) (x4 : Int) (A5 : Option Addr) (c5 : Nat) (l5 : List Int), cs = [.int .i64 x0, .int .i64 x1, .int .i64 x2, .int .i64 x3, .int .i64 x4, .slice A5 l5.length c5] ∧ (Lit.int .i64 x0).wf = true ∧ (Lit.int .i64 x1).wf = true ∧ (Lit.int .i64 x2).wf = true ∧ (Lit.int .i64 x3).wf = true ∧ (Lit.int .i64 x4).wf = true ∧ Kd.C (Kd.int .i64) W A5 l5.length l5 ∧ l5.length ≤ c5 ∧ l5.length ≤ maxLen ∧ l5.length * 8 ≤ 140737488351232 ∧ (∀ x ∈ l5, (Lit.int .i64 x).wf = true)
theorem opn26 : Op.Opn Try.prog 26 opnQ26 := by
  intro H enc W fuel cs x h hw
  obtain ⟨hl, q0, q1, q2, q3, q4, _⟩ := Op.opn_struct Try.underlying26 [opnQ23, (fun _ cs => ∃ a, cs = [.int .i64 a] ∧ (Lit.int .i64 a).wf = true), (fun _ cs => ∃ a, cs = [.int .i64 a] ∧ (Lit.int .i64 a).wf = true), (fun _ cs => ∃ a, cs = [.int .i64 a] ∧ (Lit.int .i64 a).wf = true), (Op.SliceQ (Kd.int .i64) 8 (fun x => (Lit.int .i64 x).wf = true))] ⟨opn23, (Op.opn_int Try.underlying3), (Op.opn_int Try.underlying3), (Op.opn_int Try.underlying3), (Op.opn_slice (Kd.int .i64) (fun x => (Lit.int .i64 x).wf = true) 1 8 Try.underlying24 (by kernel_rfl) rfl (by kernel_rfl) (fun H enc W fuel cs x h hw => by obtain ⟨a, rfl, hq⟩ := Op.opn_int Try.underlying3 H enc W fuel cs x h hw; exact ⟨a, rfl, hq⟩)), trivial⟩ H enc W fuel cs x h hw
  have hl' : cs.length = 6 := hl.trans (by kernel_rfl)
  obtain ⟨v0, v1, v2, v3, v4, v5, rfl⟩ := Op.len6 cs hl'
  rw [show Try.prog.cellsOf _ = 2 from (by kernel_rfl : Try.prog.cellsOf 23 = 2)] at q0
  replace q0 : opnQ23 W [v0, v1] := q0
  obtain ⟨x0, x1, e0, o0, o1⟩ := q0
  simp only [List.cons.injEq, and_true] at e0
  obtain ⟨rfl, rfl⟩ := e0
  rw [show Try.prog.cellsOf _ = 1 from (by kernel_rfl : Try.prog.cellsOf 3 = 1)] at q1
  replace q1 : (fun _ cs => ∃ a, cs = [.int .i64 a] ∧ (Lit.int .i64 a).wf = true) W [v2] := q1
  obtain ⟨x2, e2, o2⟩ := q1
  simp only [List.cons.injEq, and_true] at e2
  obtain rfl := e2
  rw [show Try.prog.cellsOf _ = 1 from (by kernel_rfl : Try.prog.cellsOf 3 = 1)] at q2
  replace q2 : (fun _ cs => ∃ a, cs = [.int .i64 a] ∧ (Lit.int .i64 a).wf = true) W [v3] := q2
  obtain ⟨x3, e3, o3⟩ := q2
  simp only [List.cons.injEq, and_true] at e3
  obtain rfl := e3
  rw [show Try.prog.cellsOf _ = 1 from (by kernel_rfl : Try.prog.cellsOf 3 = 1)] at q3
  replace q3 : (fun _ cs => ∃ a, cs = [.int .i64 a] ∧ (Lit.int .i64 a).wf = true) W [v4] := q3
  obtain ⟨x4, e4, o4⟩ := q3
  simp only [List.cons.injEq, and_true] at e4
  obtain rfl := e4
  rw [show Try.prog.cellsOf _ = 1 from (by kernel_rfl : Try.prog.cellsOf 24 = 1)] at q4
  replace q4 : (Op.SliceQ (Kd.int .i64) 8 (fun x => (Lit.int .i64 x).wf = true)) W [v5] := q4
  obtain ⟨A5, c5, l5, e5, cc5, m5, b5, r5, o5⟩ := q4
  obtain rfl : v5 = _ := (List.cons.inj e5).1
  exact ⟨x0, x1, x2, x3, x4, A5, c5, l5, rfl, o0, o1, o2, o3, o4, r5, cc5, m5, b5, o5⟩
def opnQ27 (W : World) (cs : List Value) : Prop := ∃ (x0 : Int) (x1 : Int) (x2 : Int), cs = [.int .i64 x0, .int .i64 x1, .int .i64 x2] ∧ (Lit.int .i64 x0).wf = true ∧ (Lit.int .i64 x1).wf = true ∧ (Lit.int .i64 x2).wf = true
theorem opn27 : Op.Opn Try.prog 27 opnQ27 := by
  intro H enc W fuel cs x h hw
  obtain ⟨hl, hq⟩ := Op.opn_array Try.underlying27 (fun _ cs => ∃ a, cs = [.int .i64 a] ∧ (Lit.int .i64 a).wf = true) (Op.opn_int Try.underlying3) H enc W fuel cs x h hw
  have hl' : cs.length = 3 := hl.trans (by kernel_rfl)
  obtain ⟨v0, v1, v2, rfl⟩ := Op.len3 cs hl'
  have q0 := hq 0 (by decide)
  rw [show Try.prog.cellsOf 3 = 1 from by kernel_rfl] at q0
  replace q0 : (fun _ cs => ∃ a, cs = [.int .i64 a] ∧ (Lit.int .i64 a).wf = true) W [v0] := q0
  obtain ⟨x0, e0, o0⟩ := q0
  simp only [List.cons.injEq, and_true] at e0
  obtain rfl := e0
  have q1 := hq 1 (by decide)
  rw [show Try.prog.cellsOf 3 = 1 from by kernel_rfl] at q1
  replace q1 : (fun _ cs => ∃ a, cs = [.int .i64 a] ∧ (Lit.int .i64 a).wf = true) W [v1] := q1
  obtain ⟨x1, e1, o1⟩ := q1
  simp only [List.cons.injEq, and_true] at e1
  obtain rfl := e1
  have q2 := hq 2 (by decide)
  rw [show Try.prog.cellsOf 3 = 1 from by kernel_rfl] at q2
  replace q2 : (fun _ cs => ∃ a, cs = [.int .i64 a] ∧ (Lit.int .i64 a).wf = true) W [v2] := q2
  obtain ⟨x2, e2, o2⟩ := q2
  simp only [List.cons.injEq, and_true] at e2
  obtain rfl := e2
  exact ⟨x0, x1, x2, rfl, o0, o1, o2⟩
set_option maxRecDepth 100000 in
theorem lifted (os : Os) (started : os.Started) (H : Type) (enc : TypeId × Value → H) :
    ReturnsInHanded {} Try.checked os 4 .any (Rows.signalRoundSpec.pre6 enc Try.prog Try.f4 Rows.signalRoundRow.domain false) (Rows.signalRoundSpec.post enc Try.prog Try.f4 false true false false) := by
  refine returnsInHanded_of_change_sized (C := Try.checked) own started (by kernel_rfl) Try.func4
    (ChangeSpec.witness6 (enc := enc) (C := Try.checked) false ⟨#[], #[.agg #[.int .i64 0, .int .i64 0, .int .i64 0, .int .i64 0, .int .i64 0, .slice none 0 0], .int .i64 0, .agg #[.int .i64 0, .int .i64 0, .int .i64 0]], []⟩ 8 (by kernel_rfl) (by kernel_rfl) (by kernel_rfl) (by kernel_rfl)) ?_
  intro W base args ds gs before hval0 hW hcnd hsz0 _
  have hsz : (DataW.weightsEach Try.prog (Try.f4.params.toList ++ Rows.signalRoundSpec.plain.varTypes Try.prog) (ds ++ gs)).all (· ≤ reachBytes) = true := hsz0
  have hval : ∀ (j : Nat) t v, Try.f4.params[j]? = some t → args[j]? = some v → Value.okWide Try.prog W .any base t v := hval0
  have hW' := hW
  obtain ⟨p, q, hA0, hV, rfl, hfz, hnd⟩ := hW
  have hA : DataW.TrodAll enc Try.prog W 0 (fun _ => true) true Try.f4.params.toList args.toList ds p := hA0
  rw [Try.params4] at hA hval hsz
  obtain ⟨v0, vs0, d0, ds0, p0, q0, hargs, rfl, rfl, h0, r0⟩ := trodAll_cons hA
  obtain ⟨v1, vs1, d1, ds1, p1, q1, rfl, rfl, rfl, h1, r1⟩ := trodAll_cons r0
  obtain ⟨v2, vs2, d2, ds2, p2, q2, rfl, rfl, rfl, h2, r2⟩ := trodAll_cons r1
  obtain ⟨rfl, rfl, rfl⟩ := trodAll_nil r2
  obtain rfl : args = #[v0, v1, v2] := by cases args; simp_all
  obtain ⟨rfl, rfl⟩ := trodVars_none hV
  have k0 := h0
  have lt0 : ∀ x ∈ p0, x.block < W.heap.size := Op.trod_lt k0
  obtain ⟨cs0, rfl, z0⟩ := Op.opn_agg opn26 (hval 0 26 v0 rfl rfl) (.inl ⟨_, Try.underlying26⟩) h0 hsz (j := 0) rfl rfl
  obtain ⟨x0_0, x0_1, x0_2, x0_3, x0_4, A0_5, c0_5, l0_5, rfl, o0_0, o0_1, o0_2, o0_3, o0_4, r0_5, cc0_5, m0_5, b0_5, o0_5⟩ := z0
  obtain ⟨a1, rfl, rfl, rfl, w1⟩ := open_int Try.underlying3 (hval 1 3 v1 rfl rfl) h1
  have k2 := h2
  have lt2 : ∀ x ∈ p2, x.block < W.heap.size := Op.trod_lt k2
  obtain ⟨cs2, rfl, z2⟩ := Op.opn_agg opn27 (hval 2 27 v2 rfl rfl) (.inr ⟨_, _, Try.underlying27⟩) h2 hsz (j := 2) rfl rfl
  obtain ⟨x2_0, x2_1, x2_2, rfl, o2_0, o2_1, o2_2⟩ := z2
  clear hA0 hval0 hsz0 hsz
  refine (F.damasklaw23_SignalRound.walk Pure.SignalRound x0_0 x0_1 x0_2 x0_3 x0_4 A0_5 c0_5 l0_5 a1 x2_0 x2_1 x2_2 W o0_0 o0_1 o0_2 o0_3 o0_4 r0_5 cc0_5 m0_5 b0_5 o0_5 w1 o2_0 o2_1 o2_2).mono fun e W' ⟨he, bel⟩ => ?_
  subst he
  exact ⟨_, rfl, _, _, _, [], _, [], hW', trodAll_mk1 (shut_bool Try.underlying4 _), (trodAll_cons_mk (Below.trod laidOut (by kernel_rfl) (of_decide_eq_true (by kernel_rfl)) k0 bel lt0) (trodAll_cons_mk (shut_int Try.underlying3 w1) (trodAll_cons_mk (Below.trod laidOut (by kernel_rfl) (of_decide_eq_true (by kernel_rfl)) k2 bel lt2) trodAll_mk0))), rfl, bel.frame _, fun h => by cases h⟩
theorem over : Rows.signalRoundRow.holds Try.pinned (OpenSpec.ofChange Rows.signalRoundSpec) :=
  OpenClaim.holds_of_wide 4 Try.f4 rfl rfl rfl rfl rfl rfl rfl ⟨rfl, rfl, rfl, rfl, rfl⟩ rfl rfl rfl rfl rfl (by kernel_rfl) Try.func4 (by kernel_rfl)
    (of_decide_eq_true (by kernel_rfl)) (by unfold Func.isWrapper; first | (rw [if_pos (by decide +kernel)]; kernel_rfl) | (rw [if_neg (by decide +kernel)]; exact ⟨rfl, rfl⟩))
    (fun os started H enc _ => lifted os started H enc)
theorem proved : Rows.SignalRoundSaid := over
#print axioms proved
end Go.Proofs.Ytggfgbhodkfllaa.signalRound
namespace Go.Proofs.Ytggfgbhodkfllaa
/-- The row, under a short name, for the claim. -/
theorem signalRound_holds : Rows.SignalRoundSaid := signalRound.proved
end Go.Proofs.Ytggfgbhodkfllaa
