/- For every key, key.Right and key.Text answer as the reference does; no condition. -/
import Derived.Test.YtaanbojalolhnaaM11
import Derived.Test.YtaanbojalolhnaaPureBase
set_option linter.unusedVariables false
set_option linter.unusedSimpArgs false
namespace Go.Proofs.Ytaanbojalolhnaa.Pure
open Go.RowKit Go.Proofs.Ytaanbojalolhnaa.M Go.Proofs.YtaanbojalolhnaaW.PrintWords Go.Proofs.YtaanbojalolhnaaW.PrintLast

theorem rights_at : ∀ i : Fin 15, ∀ m : Bool, partitalaw03_KeyRights.f 100 (-7 + (i.val : Int)) m = some true := by decide +kernel

theorem KeyRights : partitalaw03_KeyRights.Pure := by
  intro a m _
  refine ⟨100, ?_⟩
  rcases key_cases a with ⟨i, rfl⟩ | h
  · exact rights_at i m
  · obtain ⟨h1, h2⟩ := h m
    simp [partitalaw03_KeyRights.f, awake_ok, key_Text.f, partitaref03_Text.f, h1, h2]

end Go.Proofs.Ytaanbojalolhnaa.Pure
