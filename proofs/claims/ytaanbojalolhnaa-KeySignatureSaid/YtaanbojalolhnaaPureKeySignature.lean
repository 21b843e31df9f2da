/- A right key alters as many steps as its fifths tell, all to one side; no condition. -/
import Derived.Test.YtaanbojalolhnaaM18
import Derived.Test.YtaanbojalolhnaaPureBase
set_option linter.unusedVariables false
set_option linter.unusedSimpArgs false
namespace Go.Proofs.Ytaanbojalolhnaa.Pure
open Go.RowKit Go.Proofs.Ytaanbojalolhnaa.M Go.Proofs.YtaanbojalolhnaaW.PrintWords Go.Proofs.YtaanbojalolhnaaW.PrintLast

theorem signature_at : ∀ i : Fin 15, ∀ m : Bool, partitalaw03_KeySignature.f 100 (-7 + (i.val : Int)) m = some true := by decide +kernel

theorem KeySignature : partitalaw03_KeySignature.Pure := by
  intro a m _
  refine ⟨100, ?_⟩
  rcases key_cases a with ⟨i, rfl⟩ | h
  · exact signature_at i m
  · obtain ⟨h1, h2⟩ := h m
    simp [partitalaw03_KeySignature.f, awake_ok, h2]

end Go.Proofs.Ytaanbojalolhnaa.Pure
