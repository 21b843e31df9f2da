/- What the functions on pitches know of the world: the table of half tones holds its seven numbers. -/
import Derived.Test.YtaanbojalolhnabDoorProg
import Derived.Below
import Derived.RowKit
namespace Go.Proofs.YtaanbojalolhnabDoor.M
open Go.RowKit

def halfTab : List Int := [0, 2, 4, 5, 7, 9, 11]
def GW (w : World) : Prop := ∀ i, i < 7 → w.cell? ⟨0, i, none⟩ = some (.int .i64 (halfTab.getD i 0))
theorem GW.step {w W : World} (h : GW w) (hb : Below w.heap.size w W) : GW W := fun i hi => (hb.cell (World.block_lt_of_cell? w _ (h i hi))).trans (h i hi)
end Go.Proofs.YtaanbojalolhnabDoor.M
