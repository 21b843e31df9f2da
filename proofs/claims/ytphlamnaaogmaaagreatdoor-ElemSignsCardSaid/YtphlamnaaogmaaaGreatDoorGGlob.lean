import Derived.Below
import Derived.RowKit
import Derived.KernelRfl
import Derived.Lib.SmallJoins
import Derived.Test.YtphlamnaaogmaaaGreatDoorGShelf
namespace Go.Proofs.YtphlamnaaogmaaaGreatDoor.M
open Go.RowKit
def GW (w : World) : Prop := Lib.Utf8Tabs 0 1 w ∧ (∃ m, w.cell? ⟨2, 0, none⟩ = some (.int .i64 m)) ∧ (∃ tp p, w.var? Tryz.prog "strconv.ErrSyntax" = some #[.iface tp p]) ∧ (∃ tp p, w.var? Tryz.prog "strconv.ErrRange" = some #[.iface tp p])
theorem synN : Tryz.prog.globalNamed "strconv.ErrSyntax" = some 3 := by kernel_rfl
theorem rngN : Tryz.prog.globalNamed "strconv.ErrRange" = some 4 := by kernel_rfl
theorem GW.step {w W : World} (h : GW w) (hb : Below w.heap.size w W) : GW W := by
  obtain ⟨h1, ⟨m, h2⟩, ⟨tp, p, h3⟩, ⟨tq, q, h4⟩⟩ := h
  exact ⟨Utf8Tabs_below h1 hb, ⟨m, (hb.cell (World.block_lt_of_cell? w _ h2)).trans h2⟩, ⟨tp, p, Go.Joins.var_stays synN h3 hb (Nat.le_refl _)⟩, ⟨tq, q, Go.Joins.var_stays rngN h4 hb (Nat.le_refl _)⟩⟩
end Go.Proofs.YtphlamnaaogmaaaGreatDoor.M
