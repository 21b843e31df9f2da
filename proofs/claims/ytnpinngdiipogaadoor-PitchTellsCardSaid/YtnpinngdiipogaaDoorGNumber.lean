/- pitch.number, where the step is one of seven: the table is read. -/
import Derived.Test.YtnpinngdiipogaaDoorGGlob
import Derived.WalkKit
import Derived.Deep.QuietTactic
import Derived.BigQuiet
import Derived.KernelRfl
set_option linter.unusedVariables false
namespace Go.Proofs.YtnpinngdiipogaaDoor.M
open Go.RowKit

theorem drewN_below {B : Nat} {w W : World} (h : Below B w W) (n : Nat) : Below B w (W.drewN n) := ⟨h.os, h.tape, h.output, h.size, h.block⟩

def pitch_number.f (a0_0 : Int) (a0_1 : Int) (a0_2 : Int) : Option Int :=
  if 0 ≤ a0_0 ∧ a0_0 < 7 then some (wrap64 (wrap64 (wrap64 (12 * wrap64 (a0_2 + 1)) + halfTab.getD a0_0.toNat 0) + a0_1)) else none

set_option maxHeartbeats 8000000 in
set_option maxRecDepth 100000 in
theorem pitch_number.calls (a0_0 : Int) (a0_1 : Int) (a0_2 : Int) (r : Int) (w : World) (hG_ : GW w) (h : pitch_number.f a0_0 a0_1 a0_2 = some r) :
    Calls Tryd.prog 31 #[.agg #[.int .i64 a0_0, .int .i64 a0_1, .int .i64 a0_2]] w fun e w' => e = .returned (.int .i64 r) ∧ Below w.heap.size w w' := by
  unfold pitch_number.f at h
  split at h
  · rename_i hc
    obtain rfl := Option.some.inj h
    have hcases : a0_0 = 0 ∨ a0_0 = 1 ∨ a0_0 = 2 ∨ a0_0 = 3 ∨ a0_0 = 4 ∨ a0_0 = 5 ∨ a0_0 = 6 := by omega
    clear hc h
    rcases hcases with rfl | rfl | rfl | rfl | rfl | rfl | rfl
    all_goals
      have hlt := World.block_lt_of_cell? w _ (hG_.1 0 (by decide))
      have c0 := hG_.1 0 (by decide)
      have c1 := hG_.1 1 (by decide)
      have c2 := hG_.1 2 (by decide)
      have c3 := hG_.1 3 (by decide)
      have c4 := hG_.1 4 (by decide)
      have c5 := hG_.1 5 (by decide)
      have c6 := hG_.1 6 (by decide)
      simp only [halfTab, List.getD_eq_getElem?_getD, List.getElem?_cons_zero, List.getElem?_cons_succ, Option.getD_some] at c0 c1 c2 c3 c4 c5 c6
      clear hG_
      go_enter Tryd.func31, Tryd.ntmps31
      go_wp2
      go_quiet (fail)
      go_wp2
      go_ret
      refine ⟨by first | rfl | (simp [halfTab]; done), ?_⟩
      exact drewN_below ((Below.refl w.heap.size w).alloc (Nat.le_refl _) _) _
  · cases h
end Go.Proofs.YtnpinngdiipogaaDoor.M
