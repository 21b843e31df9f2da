/- The row's condition on the listed table gives what the walks ask. -/
import Derived.Test.YtaanbojalolhnabDoorRows
import Derived.Test.YtaanbojalolhnabDoorGGlob
import Derived.LaidMore
import Derived.Stop.LaidErr
import Derived.Lib.LaidTab
import Derived.KernelRfl
namespace Go.Proofs.YtaanbojalolhnabDoor.M
open Go.RowKit

theorem halfN : Tryd.prog.globalNamed "partita/pitch.halfTones" = some 0 := by kernel_rfl
theorem halfT : (Tryd.prog.globals[0]?).map (·.type) = some 58 := by kernel_rfl
theorem halfC : Tryd.prog.cellsOf 3 = 1 := by kernel_rfl
theorem halfC7 : Tryd.prog.cellsOf 58 = 7 := by kernel_rfl
theorem GW.of_laid {W : World} (h : laidMetH Tryd.prog [("partita/pitch.halfTones", Rows.laid_partita_pitch_halfTones)] W) : GW W := by
  rw [MakeChecks.laidMetH_plain _ _ _ (by kernel_rfl)] at h
  exact fun i hi => (Lib.tabIs_of_head (zs := halfTab) halfN halfT Tryd.underlying58 Tryd.underlying3 halfC halfC7 h).cell halfN i hi
end Go.Proofs.YtaanbojalolhnabDoor.M
