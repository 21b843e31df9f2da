/- For every key, key.Scale answers as the reference does; no condition. -/
import Derived.Test.YtaanbojalolhnaaM15
import Derived.Test.YtaanbojalolhnaaPureBase
set_option linter.unusedVariables false
set_option linter.unusedSimpArgs false
namespace Go.Proofs.Ytaanbojalolhnaa.Pure
open Go.RowKit Go.Proofs.Ytaanbojalolhnaa.M Go.Proofs.YtaanbojalolhnaaW.PrintWords Go.Proofs.YtaanbojalolhnaaW.PrintLast

theorem scales_at : ∀ i : Fin 15, ∀ m : Bool, partitalaw03_KeyScales.f 100 (-7 + (i.val : Int)) m = some true := by decide +kernel

theorem KeyScales : partitalaw03_KeyScales.Pure := by
  intro a m _
  refine ⟨100, ?_⟩
  rcases key_cases a with ⟨i, rfl⟩ | h
  · exact scales_at i m
  · obtain ⟨h1, h2⟩ := h m
    have hs : partitaref03_Same.f 100 [] [] = some true := by decide +kernel
    simp [partitalaw03_KeyScales.f, awake_ok, key_Scale.f, partitaref03_Scale.f, h1, h2, hs]

end Go.Proofs.Ytaanbojalolhnaa.Pure
