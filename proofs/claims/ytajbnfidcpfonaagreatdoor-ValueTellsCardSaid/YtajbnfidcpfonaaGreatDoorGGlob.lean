/- What the functions on values know of the world: the two tables of package value, the library's table of powers of ten, the bound of its search, and its two errors of numbers. -/
import Derived.Test.YtajbnfidcpfonaaGreatDoorProg
import Derived.Below
import Derived.RowKit
import Derived.KernelRfl
import Derived.Lib.SmallJoins
import Derived.Lib.LaidTab
import Derived.Test.YtajbnfidcpfonaaGreatDoorGShelf
namespace Go.Proofs.YtajbnfidcpfonaaGreatDoor.M
open Go.RowKit

def kindTab : List Int := [0, 0, 0, 0, 0, 0, 3, 2, 0, 0, 5, 4, 0, 0, 7, 4]
def dotTab : List Int := [1, 1, 3, 2, 7, 4]
def GW (w : World) : Prop := (Lib.TabIs Tryz.prog w "internal/strconv.uint64pow10" .u64 Lib.pow10Tab ∧ (∃ m, w.cell? ⟨2, 0, none⟩ = some (.int .i64 m)) ∧ (∃ tp p, w.var? Tryz.prog "strconv.ErrSyntax" = some #[.iface tp p]) ∧ (∃ tp p, w.var? Tryz.prog "strconv.ErrRange" = some #[.iface tp p])) ∧ (∀ i, i < 16 → w.cell? ⟨1, i, none⟩ = some (.int .i64 (kindTab.getD i 0))) ∧ (∀ i, i < 6 → w.cell? ⟨0, i, none⟩ = some (.int .i64 (dotTab.getD i 0)))
theorem pow10N : Tryz.prog.globalNamed "internal/strconv.uint64pow10" = some 5 := by kernel_rfl
theorem synN : Tryz.prog.globalNamed "strconv.ErrSyntax" = some 3 := by kernel_rfl
theorem rngN : Tryz.prog.globalNamed "strconv.ErrRange" = some 4 := by kernel_rfl
theorem GW.step {w W : World} (h : GW w) (hb : Below w.heap.size w W) : GW W := by
  obtain ⟨⟨h1, ⟨m, h2⟩, ⟨tp, p, h3⟩, ⟨tq, q, h4⟩⟩, h5, h6⟩ := h
  exact ⟨⟨Go.Joins.tab_stays pow10N h1 hb (Nat.le_refl _), ⟨m, (hb.cell (World.block_lt_of_cell? w _ h2)).trans h2⟩, ⟨tp, p, Go.Joins.var_stays synN h3 hb (Nat.le_refl _)⟩, ⟨tq, q, Go.Joins.var_stays rngN h4 hb (Nat.le_refl _)⟩⟩,
    fun i hi => (hb.cell (World.block_lt_of_cell? w _ (h5 i hi))).trans (h5 i hi), fun i hi => (hb.cell (World.block_lt_of_cell? w _ (h6 i hi))).trans (h6 i hi)⟩
end Go.Proofs.YtajbnfidcpfonaaGreatDoor.M
