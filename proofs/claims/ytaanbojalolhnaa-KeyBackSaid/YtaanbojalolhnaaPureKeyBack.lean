/- A right key's text is told there and back; what is no key has none; no condition. -/
import Derived.Test.YtaanbojalolhnaaM21
import Derived.Test.YtaanbojalolhnaaPureBase
set_option linter.unusedVariables false
set_option linter.unusedSimpArgs false
namespace Go.Proofs.Ytaanbojalolhnaa.Pure
open Go.RowKit Go.Proofs.Ytaanbojalolhnaa.M Go.Proofs.YtaanbojalolhnaaW.PrintWords Go.Proofs.YtaanbojalolhnaaW.PrintLast

theorem back_at : ∀ i : Fin 15, ∀ m : Bool, partitalaw03_KeyBack.f 100 (-7 + (i.val : Int)) m = some true := by decide +kernel
theorem read_empty : key_Read.f ⟨#[]⟩ = some (0, false, 30) := by decide +kernel

theorem KeyBack : partitalaw03_KeyBack.Pure := by
  intro a m _
  refine ⟨100, ?_⟩
  rcases key_cases a with ⟨i, rfl⟩ | h
  · exact back_at i m
  · obtain ⟨h1, h2⟩ := h m
    simp [partitalaw03_KeyBack.f, awake_ok, key_Text.f, h1, read_empty]

end Go.Proofs.Ytaanbojalolhnaa.Pure
