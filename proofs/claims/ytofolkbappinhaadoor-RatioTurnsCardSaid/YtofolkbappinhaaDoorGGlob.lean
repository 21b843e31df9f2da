/- What the functions on ratios know of the world: the library's table of powers of ten, the bound of its search, and its two errors of numbers. -/
import Derived.Test.YtofolkbappinhaaDoorProg
import Derived.Below
import Derived.RowKit
import Derived.KernelRfl
import Derived.Lib.SmallJoins
import Derived.Lib.LaidTab
import Derived.Test.YtofolkbappinhaaDoorGShelf
namespace Go.Proofs.YtofolkbappinhaaDoor.M
open Go.RowKit

def GW (w : World) : Prop := Lib.TabIs Tryd.prog w "internal/strconv.uint64pow10" .u64 Lib.pow10Tab ∧ (∃ m, w.cell? ⟨0, 0, none⟩ = some (.int .i64 m)) ∧ (∃ tp p, w.var? Tryd.prog "strconv.ErrSyntax" = some #[.iface tp p]) ∧ (∃ tp p, w.var? Tryd.prog "strconv.ErrRange" = some #[.iface tp p])
theorem pow10N : Tryd.prog.globalNamed "internal/strconv.uint64pow10" = some 3 := by kernel_rfl
theorem synN : Tryd.prog.globalNamed "strconv.ErrSyntax" = some 1 := by kernel_rfl
theorem rngN : Tryd.prog.globalNamed "strconv.ErrRange" = some 2 := by kernel_rfl
theorem GW.step {w W : World} (h : GW w) (hb : Below w.heap.size w W) : GW W := by
  obtain ⟨h1, ⟨m, h2⟩, ⟨tp, p, h3⟩, ⟨tq, q, h4⟩⟩ := h
  exact ⟨Go.Joins.tab_stays pow10N h1 hb (Nat.le_refl _), ⟨m, (hb.cell (World.block_lt_of_cell? w _ h2)).trans h2⟩, ⟨tp, p, Go.Joins.var_stays synN h3 hb (Nat.le_refl _)⟩, ⟨tq, q, Go.Joins.var_stays rngN h4 hb (Nat.le_refl _)⟩⟩
end Go.Proofs.YtofolkbappinhaaDoor.M
