/- The statement SignalRound of layer 23 (places and samples are one to one): for all arguments, no condition. -/
import Derived.Test.YtggfgbhodkfllaaSk
import Derived.Test.YtggfgbhodkfllaaFlawSignalRound1
namespace Go.Proofs.Ytggfgbhodkfllaa.Pure
open Go.RowKit Go.Proofs.Ytggfgbhodkfllaa.F Go.Proofs.YtggfgbhodkfllaaW.PrintWords Go.Proofs.YtggfgbhodkfllaaW.PrintLast Go.Proofs.YtggfgbhodkfllaaW.PrintMore

theorem round_j1 (k : Nat) (f d p w h : Int) (l : List Int) (c x y : Int) : damasklaw23_SignalRound.j1 (k + 3) (Dk.shape f d p w h).1 f d p w h l c x y = some true := by
  have e : damasklaw23_SignalRound.j1 (k + 3) (Dk.shape f d p w h).1 f d p w h l c x y = (signal_Index.f (k + 2) f d p w h l c x y).bind fun bt => if bt.2 = true then ((signal_Where.f (k + 2) f d p w h l bt.1).bind fun bu => if bu.2.2.2 = true then (if bt.1 ≥ 0 then (if bt.1 < (Dk.shape f d p w h).1 then (if bu.1 = c then (if bu.2.1 = x then some (bu.2.2.1 == y) else some false) else some false) else some false) else some false) else some false) else some (bt.1 == 0) := rfl
  rw [e, index_code]
  simp only [Option.bind_some]
  unfold indexS
  by_cases hc : Dk.shapeOk f d p w h ∧ (0 ≤ c ∧ c < p) ∧ (0 ≤ x ∧ x < w) ∧ (0 ≤ y ∧ y < h)
  · rw [if_pos hc]
    simp only [if_true]
    have hb := Dk.index_bound hc.1 hc.2.1 hc.2.2.1 hc.2.2.2
    have hw := Dk.where_index hc.1 hc.2.1 hc.2.2.1 hc.2.2.2
    rw [where_code]
    simp only [Option.bind_some]
    have h3 : (Dk.shape f d p w h).1 = p * w * h := by unfold Dk.shape; rw [if_pos hc.1]
    unfold whereS
    rw [if_pos (show Dk.shapeOk f d p w h ∧ 0 ≤ Dk.indexOf f p w h c x y ∧ Dk.indexOf f p w h c x y < p * w * h from ⟨hc.1, hb.1, hb.2⟩), hw, h3]
    simp only [if_true]
    rw [if_pos (show Dk.indexOf f p w h c x y ≥ 0 from hb.1), if_pos hb.2]
    simp
  · rw [if_neg hc]; rfl
theorem SignalRound : damasklaw23_SignalRound.Pure := by
  intro f d p w h l i c x y _ _ _ _ _ _ _ _ _ _ _ _
  refine ⟨100, ?_⟩
  unfold damasklaw23_SignalRound.f
  rw [shape_code 98, where_code 98, awake23_code 20]
  simp only [Option.bind_some, if_true]
  have e0 : ∀ (a b v : Int) (ok : Bool), damasklaw23_SignalRound.j0 100 i (Dk.shape f d p w h).1 a b v ok false f d p w h l c x y = if ok = true then ((signal_Index.f 99 f d p w h l a b v).bind fun bt => if bt.2 = true then (if bt.1 = i then damasklaw23_SignalRound.j1 99 (Dk.shape f d p w h).1 f d p w h l c x y else some false) else some false) else damasklaw23_SignalRound.j1 99 (Dk.shape f d p w h).1 f d p w h l c x y := fun a b v ok => rfl
  have hj := round_j1 96 f d p w h l c x y
  by_cases hs : Dk.shapeOk f d p w h ∧ 0 ≤ i ∧ i < p * w * h
  · have hb := Dk.where_bound hs.1 hs.2.1 hs.2.2
    have hi := Dk.index_where f p w h i
    have h2 : (Dk.shape f d p w h).2 = 0 := by unfold Dk.shape; rw [if_pos hs.1]
    have h3 : (Dk.shape f d p w h).1 = p * w * h := by unfold Dk.shape; rw [if_pos hs.1]
    have h4 : (whereS f d p w h i).2.2.2 = true := by unfold whereS; rw [if_pos hs]
    rw [if_pos h2, if_pos (show i ≥ 0 from hs.2.1), h4, decide_eq_true (show i < (Dk.shape f d p w h).1 by rw [h3]; exact hs.2.2)]
    show damasklaw23_SignalRound.j0 100 i (Dk.shape f d p w h).1 _ _ _ true false f d p w h l c x y = some true
    rw [e0, if_pos rfl, index_code 97, hj]
    unfold whereS
    rw [if_pos hs]
    simp only [Option.bind_some]
    unfold indexS
    rw [if_pos (show Dk.shapeOk f d p w h ∧ (0 ≤ (Dk.whereIs f p w h i).1 ∧ (Dk.whereIs f p w h i).1 < p) ∧ (0 ≤ (Dk.whereIs f p w h i).2.1 ∧ (Dk.whereIs f p w h i).2.1 < w) ∧ (0 ≤ (Dk.whereIs f p w h i).2.2 ∧ (Dk.whereIs f p w h i).2.2 < h) from ⟨hs.1, ⟨hb.1, hb.2.1⟩, ⟨hb.2.2.1, hb.2.2.2.1⟩, ⟨hb.2.2.2.2.1, hb.2.2.2.2.2⟩⟩)]
    simp [hi]
  · have h4 : (whereS f d p w h i).2.2.2 = false := by unfold whereS; rw [if_neg hs]
    rw [h4]
    by_cases h2 : (Dk.shape f d p w h).2 = 0
    · have hok : Dk.shapeOk f d p w h := by
        apply Classical.byContradiction
        intro hn
        unfold Dk.shape at h2
        rw [if_neg hn] at h2
        simp at h2
      have h3 : (Dk.shape f d p w h).1 = p * w * h := by unfold Dk.shape; rw [if_pos hok]
      rw [if_pos h2]
      by_cases h0 : i ≥ 0
      · rw [if_pos h0, decide_eq_false (show ¬ i < (Dk.shape f d p w h).1 by rw [h3]; intro hl; exact hs ⟨hok, h0, hl⟩)]
        show damasklaw23_SignalRound.j0 100 i (Dk.shape f d p w h).1 _ _ _ false false f d p w h l c x y = some true
        rw [e0, hj]; rfl
      · rw [if_neg h0]
        show damasklaw23_SignalRound.j0 100 i (Dk.shape f d p w h).1 _ _ _ false false f d p w h l c x y = some true
        rw [e0, hj]; rfl
    · rw [if_neg h2]
      show damasklaw23_SignalRound.j0 100 i (Dk.shape f d p w h).1 _ _ _ false false f d p w h l c x y = some true
      rw [e0, hj]; rfl

end Go.Proofs.Ytggfgbhodkfllaa.Pure
