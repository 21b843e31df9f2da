/- For any raw pitch: a sharp more is a half tone more on the same line, where there may be one; no condition. -/
import Derived.Test.YtnpinngdiipogaaDoorM24
import Derived.Test.YtnpinngdiipogaaDoorPureBase
set_option linter.unusedVariables false
set_option linter.unusedSimpArgs false
namespace Go.Proofs.YtnpinngdiipogaaDoor.Pure
open Go.RowKit Go.Proofs.YtnpinngdiipogaaDoor.M Go.Proofs.YtnpinngdiipogaaDoorW.PrintWords Go.Proofs.YtnpinngdiipogaaDoorW.PrintLast
set_option maxRecDepth 100000

theorem PitchSigns : partitalaw02_PitchSigns.Pure := by
  intro a b c ha hb hc
  obtain ⟨s, x, o, e1, r1⟩ := Pitch_eq ha hb hc
  refine ⟨1000, ?_⟩
  unfold partitalaw02_PitchSigns.f
  rw [awake_ok, e1]
  have r1' := r1
  obtain ⟨a0, a1, a2, a3, a4, a5, a6, a7⟩ := r1'
  simp only [Option.bind_some, Between_k, right_eq, Number_eq, Line_eq, if_pos r1, if_true]
  rw [wr (x := x + 1) (by omega) (by omega)]
  have hn : num s (x + 1) o = num s x o + 1 := by unfold num; omega
  by_cases h : R s (x + 1) o
  · have h' := h
    obtain ⟨b0, b1, b2, b3, b4, b5, b6, b7⟩ := h'
    rw [decide_eq_true h, if_pos (show x < 2 by omega), decide_eq_true (show num s x o < 127 by omega), if_pos h, if_pos h, betS_of r1 h]
    have hc : pitch_Compare.f 999 s x o s (x + 1) o = some (-1) := by
      rw [show (999 : Nat) = 995 + 4 from rfl, Compare_eq]
      unfold cmpS
      rw [if_pos ⟨r1, h⟩, if_pos (by omega)]
    simp only [partitalaw02_PitchSigns.j0, right_eq, Option.bind_some, decide_eq_true h]
    rw [hc, wr (x := num s x o + 1) (by omega) (by omega)]
    simp [hn]
    omega
  · have hd : (false != (decide (num s x o < 127))) = false ∨ ¬ x < 2 := by
      by_cases hx : x < 2
      · left
        rw [decide_eq_false (fun hk => h ⟨a0, a1, by omega, by omega, a4, a5, by omega, by omega⟩)]
        rfl
      · right; exact hx
    have hb : betS s x o s (x + 1) o = (0, 0, 20) := by
      unfold betS
      rw [if_neg (fun hk => h hk.2)]
    have hc : pitch_Compare.f 999 s x o s (x + 1) o = some 0 := by
      rw [show (999 : Nat) = 995 + 4 from rfl, Compare_eq]
      unfold cmpS
      rw [if_neg (fun hk => h hk.2)]
    rw [decide_eq_false h, if_neg h, if_neg h, hb]
    by_cases hx : x < 2
    · rw [if_pos hx]
      rw [hd.resolve_right (fun hk => hk hx)]
      simp only [partitalaw02_PitchSigns.j0, right_eq, Option.bind_some, decide_eq_false h]
      rw [hc]
      simp
    · rw [if_neg hx]
      simp only [partitalaw02_PitchSigns.j0, right_eq, Option.bind_some, decide_eq_false h]
      rw [hc]
      simp

end Go.Proofs.YtnpinngdiipogaaDoor.Pure
