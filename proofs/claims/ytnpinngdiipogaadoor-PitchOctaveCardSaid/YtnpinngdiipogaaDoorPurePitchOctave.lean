/- For any raw pitch and number of octaves: up by so many octaves leaves step and alteration; no condition. -/
import Derived.Test.YtnpinngdiipogaaDoorM22
import Derived.Test.YtnpinngdiipogaaDoorPureBase
set_option linter.unusedVariables false
set_option linter.unusedSimpArgs false
namespace Go.Proofs.YtnpinngdiipogaaDoor.Pure
open Go.RowKit Go.Proofs.YtnpinngdiipogaaDoor.M Go.Proofs.YtnpinngdiipogaaDoorW.PrintWords Go.Proofs.YtnpinngdiipogaaDoorW.PrintLast
set_option maxRecDepth 100000

theorem PitchOctave : partitalaw02_PitchOctave.Pure := by
  intro a b c m ha hb hc hm
  obtain ⟨s, x, o, e1, r1⟩ := Pitch_eq ha hb hc
  obtain ⟨k, e2, k0, k1⟩ := pick_eq (n := 19) hm (by omega) (by omega)
  refine ⟨1000, ?_⟩
  unfold partitalaw02_PitchOctave.f
  rw [awake_ok, e1]
  simp only [Option.bind_some]
  rw [e2]
  have r1' := r1
  obtain ⟨a0, a1, a2, a3, a4, a5, a6, a7⟩ := r1'
  simp only [Option.bind_some, Up_k, right_eq, Number_eq, Line_eq, decide_eq_true_eq, if_pos r1]
  rw [wr (x := k - 9) (by omega) (by omega), wr (x := 7 * (k - 9)) (by omega) (by omega), wr (x := 12 * (k - 9)) (by omega) (by omega), wr (x := o + (k - 9)) (by omega) (by omega)]
  by_cases h : R s x (o + (k - 9))
  · rw [if_pos h, upS_to r1 h (by omega) (by unfold num; omega)]
    simp only [if_pos h]
    rw [wr (x := num s x o + 12 * (k - 9)) (by omega) (by omega), wr (x := 7 * o + s + 7 * (k - 9)) (by omega) (by omega)]
    rw [if_pos trivial, if_pos trivial, if_pos (by simp), if_pos trivial, if_pos trivial, if_pos (by unfold num; omega), if_pos trivial, if_pos trivial]
    rw [show 7 * (o + (k - 9)) + s = 7 * o + s + 7 * (k - 9) by omega, beq_self_eq_true]
  · rw [if_neg h, upS_not]
    · simp
    · intro t y p r h1 h2
      have r' := r
      obtain ⟨b0, b1, b2, b3, b4, b5, b6, b7⟩ := r'
      have ht : t = s := by omega
      subst ht
      have hp : p = o + (k - 9) := by omega
      subst hp
      have hy : y = x := by unfold num at h2; omega
      subst hy
      exact h r

end Go.Proofs.YtnpinngdiipogaaDoor.Pure
