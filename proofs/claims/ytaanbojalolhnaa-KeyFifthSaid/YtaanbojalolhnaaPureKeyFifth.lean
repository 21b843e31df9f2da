/- A key a fifth higher has one fifth more, and one step more is altered by a half tone up; no condition. -/
import Derived.Test.YtaanbojalolhnaaM19
import Derived.Test.YtaanbojalolhnaaPureBase
set_option linter.unusedVariables false
set_option linter.unusedSimpArgs false
namespace Go.Proofs.Ytaanbojalolhnaa.Pure
open Go.RowKit Go.Proofs.Ytaanbojalolhnaa.M Go.Proofs.YtaanbojalolhnaaW.PrintWords Go.Proofs.YtaanbojalolhnaaW.PrintLast

theorem fifth_at : ∀ i : Fin 15, ∀ m : Bool, partitalaw03_KeyFifth.f 100 (-7 + (i.val : Int)) m = some true := by decide +kernel

theorem KeyFifth : partitalaw03_KeyFifth.Pure := by
  intro a m _
  refine ⟨100, ?_⟩
  rcases key_cases a with ⟨i, rfl⟩ | h
  · exact fifth_at i m
  · obtain ⟨h1, h2⟩ := h m
    simp [partitalaw03_KeyFifth.f, awake_ok, key_Move.f, h1, h2]

end Go.Proofs.Ytaanbojalolhnaa.Pure
