/- The row's condition on the listed tables gives what the walks ask. -/
import Derived.Test.YtnpinngdiipogaaDoorRows
import Derived.Test.YtnpinngdiipogaaDoorGGlob
import Derived.LaidMore
import Derived.LaidSub
import Derived.Stop.LaidErr
import Derived.Lib.LaidTab
import Derived.KernelRfl
namespace Go.Proofs.YtnpinngdiipogaaDoor.M
open Go.RowKit

theorem halfN : Tryd.prog.globalNamed "partita/pitch.halfTones" = some 0 := by kernel_rfl
theorem halfT : (Tryd.prog.globals[0]?).map (·.type) = some 57 := by kernel_rfl
theorem halfC : Tryd.prog.cellsOf 3 = 1 := by kernel_rfl
theorem halfC7 : Tryd.prog.cellsOf 57 = 7 := by kernel_rfl
theorem powT : (Tryd.prog.globals[1]?).map (·.type) = some 90 := by kernel_rfl
theorem powC : Tryd.prog.cellsOf 77 = 1 := by kernel_rfl
theorem powC20 : Tryd.prog.cellsOf 90 = 20 := by kernel_rfl
theorem GW.of_laid {W : World} (h : laidMetH Tryd.prog Rows.pitchUpRow.laid W) : GW W := by
  have h1 : laidMetH Tryd.prog [("partita/pitch.halfTones", Rows.laid_partita_pitch_halfTones)] W := laidMetH.filter (fun x => x.1 == "partita/pitch.halfTones") h
  have h2 : laidMetH Tryd.prog [("internal/strconv.uint64pow10", Rows.laid_internal_strconv_uint64pow10)] W := laidMetH.filter (fun x => x.1 == "internal/strconv.uint64pow10") h
  rw [MakeChecks.laidMetH_plain _ _ _ (by kernel_rfl)] at h1 h2
  exact ⟨fun i hi => (Lib.tabIs_of_head (zs := halfTab) halfN halfT Tryd.underlying57 Tryd.underlying3 halfC halfC7 h1).cell halfN i hi, Lib.tabIs_of_head (zs := Lib.pow10Tab) pow10N powT Tryd.underlying90 Tryd.underlying77 powC powC20 h2⟩
end Go.Proofs.YtnpinngdiipogaaDoor.M
