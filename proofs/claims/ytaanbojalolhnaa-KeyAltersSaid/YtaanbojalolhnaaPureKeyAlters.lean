/- For every key and step, key.Alter answers as the reference does; no condition. -/
import Derived.Test.YtaanbojalolhnaaM13
import Derived.Test.YtaanbojalolhnaaPureBase
set_option linter.unusedVariables false
set_option linter.unusedSimpArgs false
namespace Go.Proofs.Ytaanbojalolhnaa.Pure
open Go.RowKit Go.Proofs.Ytaanbojalolhnaa.M Go.Proofs.YtaanbojalolhnaaW.PrintWords Go.Proofs.YtaanbojalolhnaaW.PrintLast

theorem alters_at : ∀ i : Fin 15, ∀ m : Bool, ∀ s : Fin 7, partitalaw03_KeyAlters.f 100 (-7 + (i.val : Int)) m (s.val : Int) = some true := by decide +kernel
theorem right_at : ∀ i : Fin 15, ∀ m : Bool, key_Right.f (-7 + (i.val : Int)) m = some true ∧ partitaref03_Right.f (-7 + (i.val : Int)) m = some true := by decide +kernel

theorem KeyAlters : partitalaw03_KeyAlters.Pure := by
  intro a m s _ _
  refine ⟨100, ?_⟩
  rcases key_cases a with ⟨i, rfl⟩ | h
  · by_cases hs : 0 ≤ s ∧ s < 7
    · have := alters_at i m ⟨s.toNat, by omega⟩
      rwa [show ((s.toNat : Nat) : Int) = s from by omega] at this
    · obtain ⟨h1, h2⟩ := right_at i m
      have e1 : key_Alter.f (-7 + (i.val : Int)) m s = some (0, 2) := by
        unfold key_Alter.f
        rw [h1]; simp only [Option.bind_some, if_true]
        by_cases h0 : s < 0
        · rw [if_pos h0]
        · rw [if_neg h0, if_pos (by omega)]
      have e2 : partitaref03_Alter.f 100 (-7 + (i.val : Int)) m s = some (0, 2) := by
        unfold partitaref03_Alter.f
        rw [h2]; simp only [Option.bind_some, if_true]
        by_cases h0 : s < 0
        · rw [if_pos h0]; simp [partitaref03_Alter.j0]
        · rw [if_neg h0, decide_eq_true (by omega)]; simp [partitaref03_Alter.j0]
      simp [partitalaw03_KeyAlters.f, awake_ok, e1, e2]
  · obtain ⟨h1, h2⟩ := h m
    simp [partitalaw03_KeyAlters.f, awake_ok, key_Alter.f, partitaref03_Alter.f, h1, h2]

end Go.Proofs.Ytaanbojalolhnaa.Pure
