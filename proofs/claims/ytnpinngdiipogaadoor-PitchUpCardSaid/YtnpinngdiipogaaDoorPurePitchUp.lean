/- For any two raw pitches: up by what is between leads from the one to the other, and as much down back; no condition. -/
import Derived.Test.YtnpinngdiipogaaDoorM21
import Derived.Test.YtnpinngdiipogaaDoorPureBase
set_option linter.unusedVariables false
set_option linter.unusedSimpArgs false
namespace Go.Proofs.YtnpinngdiipogaaDoor.Pure
open Go.RowKit Go.Proofs.YtnpinngdiipogaaDoor.M Go.Proofs.YtnpinngdiipogaaDoorW.PrintWords Go.Proofs.YtnpinngdiipogaaDoorW.PrintLast
set_option maxRecDepth 100000

theorem PitchUp : partitalaw02_PitchUp.Pure := by
  intro a b c d e f ha hb hc hd he hf
  obtain ⟨s, x, o, e1, r1⟩ := Pitch_eq ha hb hc
  obtain ⟨t, y, p, e2, r2⟩ := Pitch_eq hd he hf
  refine ⟨1000, ?_⟩
  unfold partitalaw02_PitchUp.f
  rw [awake_ok, e1, e2]
  simp only [Option.bind_some, Between_k, betS_of r1 r2, betS_of r2 r1, Up_k]
  rw [upS_to r1 r2 rfl rfl]
  have hz1 : wrap64 (-(7 * p + t - (7 * o + s))) = 7 * o + s - (7 * p + t) := by
    obtain ⟨a0, a1, a2, a3, a4, a5, a6, a7⟩ := r1
    obtain ⟨b0, b1, b2, b3, b4, b5, b6, b7⟩ := r2
    rw [wr (by omega) (by omega)]; omega
  have hz2 : wrap64 (-(num t y p - num s x o)) = num s x o - num t y p := by
    obtain ⟨a0, a1, a2, a3, a4, a5, a6, a7⟩ := r1
    obtain ⟨b0, b1, b2, b3, b4, b5, b6, b7⟩ := r2
    rw [wr (by omega) (by omega)]; omega
  rw [hz1, hz2, upS_to r2 r1 rfl rfl, upS_to r1 r1 (by omega) (by omega)]
  simp

end Go.Proofs.YtnpinngdiipogaaDoor.Pure
