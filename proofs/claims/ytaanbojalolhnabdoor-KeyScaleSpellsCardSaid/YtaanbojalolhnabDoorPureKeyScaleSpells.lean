/- For every key, its scale is spelled as it stands in it; no condition. -/
import Derived.Test.YtaanbojalolhnabDoorM10
set_option linter.unusedVariables false
set_option linter.unusedSimpArgs false
namespace Go.Proofs.YtaanbojalolhnabDoor.Pure
open Go.RowKit Go.Proofs.YtaanbojalolhnabDoor.M Go.Proofs.YtaanbojalolhnabDoorW.PrintWords Go.Proofs.YtaanbojalolhnabDoorW.PrintLast
set_option maxRecDepth 100000

theorem scaleSpells_at : ∀ i : Fin 15, ∀ m : Bool, partitalaw03_KeyScaleSpells.f 100 (-7 + (i.val : Int)) m = some true := by decide +kernel
theorem awake_ok : partitalaw03_awake.f 100 = some true := by decide +kernel
theorem KeyScaleSpells : partitalaw03_KeyScaleSpells.Pure := by
  intro a m _
  refine ⟨100, ?_⟩
  by_cases h : -7 ≤ a ∧ a ≤ 7
  · have := scaleSpells_at ⟨(a + 7).toNat, by omega⟩ m
    simp only at this
    rwa [show -7 + (((a + 7).toNat : Nat) : Int) = a from by omega] at this
  · have h1 : key_Right.f a m = some false := by
      unfold key_Right.f
      by_cases h1 : a ≥ -7
      · rw [if_pos h1, decide_eq_false (by omega)]
      · rw [if_neg h1]
    simp [partitalaw03_KeyScaleSpells.f, awake_ok, key_Scale.f, h1, partitalaw03_KeyScaleSpells.l0]
end Go.Proofs.YtaanbojalolhnabDoor.Pure
