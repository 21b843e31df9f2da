/- Of two keys of one signature all steps are altered alike, and the minor scale begins five steps higher; no condition. -/
import Derived.Test.YtaanbojalolhnaaM21
import Derived.Test.YtaanbojalolhnaaPureBase
set_option linter.unusedVariables false
set_option linter.unusedSimpArgs false
namespace Go.Proofs.Ytaanbojalolhnaa.Pure
open Go.RowKit Go.Proofs.Ytaanbojalolhnaa.M Go.Proofs.YtaanbojalolhnaaW.PrintWords Go.Proofs.YtaanbojalolhnaaW.PrintLast

theorem relative_at : ∀ i : Fin 15, ∀ s : Fin 7, partitalaw03_KeyRelative.f 100 (-7 + (i.val : Int)) (s.val : Int) = some true := by decide +kernel
theorem relative_out : ∀ i : Fin 15, partitalaw03_KeyRelative.f 100 (-7 + (i.val : Int)) (-1) = some true := by decide +kernel
theorem right_yes : ∀ i : Fin 15, ∀ m : Bool, key_Right.f (-7 + (i.val : Int)) m = some true := by decide +kernel
theorem alter_out (i : Fin 15) (m : Bool) (s : Int) (h : s < 0 ∨ 7 ≤ s) : key_Alter.f 100 (-7 + (i.val : Int)) m s = some (0, 2) := by
  unfold key_Alter.f
  rw [right_yes]
  simp only [Option.bind_some, if_true]
  by_cases h0 : s < 0
  · simp [h0, key_Alter.j0]
  · have h7 : 7 ≤ s := by omega
    simp [h0, h7, key_Alter.j0]

theorem KeyRelative : partitalaw03_KeyRelative.Pure := by
  intro a s _ _
  refine ⟨100, ?_⟩
  rcases key_cases a with ⟨i, rfl⟩ | h
  · by_cases hs : 0 ≤ s ∧ s < 7
    · have := relative_at i ⟨s.toNat, by omega⟩
      rwa [show ((s.toNat : Nat) : Int) = s from by omega] at this
    · have h2 := relative_out i
      unfold partitalaw03_KeyRelative.f at h2 ⊢
      rw [alter_out i _ (-1) (by omega), alter_out i _ (-1) (by omega)] at h2
      rw [alter_out i _ s (by omega), alter_out i _ s (by omega)]
      exact h2
  · have h1 := (h false).1
    have h2 := (h true).1
    simp [partitalaw03_KeyRelative.f, awake_ok, key_Alter.f, key_Scale.f, h1, h2]

end Go.Proofs.Ytaanbojalolhnaa.Pure
