/- What the functions on pitches know of the world: the table of half tones holds its seven numbers, and the library's table of powers of ten its own. -/
import Derived.Test.YtnpinngdiipogaaDoorProg
import Derived.Below
import Derived.RowKit
import Derived.KernelRfl
import Derived.Lib.SmallJoins
import Derived.Lib.LaidTab
import Derived.Test.YtnpinngdiipogaaDoorGShelf
namespace Go.Proofs.YtnpinngdiipogaaDoor.M
open Go.RowKit

def halfTab : List Int := [0, 2, 4, 5, 7, 9, 11]
def GW (w : World) : Prop := (∀ i, i < 7 → w.cell? ⟨0, i, none⟩ = some (.int .i64 (halfTab.getD i 0))) ∧ Lib.TabIs Tryd.prog w "internal/strconv.uint64pow10" .u64 Lib.pow10Tab
theorem pow10N : Tryd.prog.globalNamed "internal/strconv.uint64pow10" = some 1 := by kernel_rfl
theorem GW.step {w W : World} (h : GW w) (hb : Below w.heap.size w W) : GW W :=
  ⟨fun i hi => (hb.cell (World.block_lt_of_cell? w _ (h.1 i hi))).trans (h.1 i hi), Go.Joins.tab_stays pow10N h.2 hb (Nat.le_refl _)⟩
end Go.Proofs.YtnpinngdiipogaaDoor.M
