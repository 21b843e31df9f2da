/- key.halves, where the step is one of seven. -/
import Derived.Test.YtaanbojalolhnabDoorGGlob
import Derived.WalkKit
import Derived.KernelRfl
set_option linter.unusedVariables false
namespace Go.Proofs.YtaanbojalolhnabDoor.M
open Go.RowKit

def key_halves.f (a0 : Int) : Option Int := if 0 ≤ a0 ∧ a0 < 7 then some (halfTab.getD a0.toNat 0) else none

set_option maxHeartbeats 8000000 in
set_option maxRecDepth 100000 in
theorem key_halves.calls (a0 : Int) (r : Int) (w : World) (h : key_halves.f a0 = some r) :
    Calls Tryd.prog 14 #[.int .i64 a0] w fun e w' => e = .returned (.int .i64 r) ∧ Below w.heap.size w w' := by
  unfold key_halves.f at h
  split at h
  · rename_i hc
    obtain rfl := Option.some.inj h
    have hcases : a0 = 0 ∨ a0 = 1 ∨ a0 = 2 ∨ a0 = 3 ∨ a0 = 4 ∨ a0 = 5 ∨ a0 = 6 := by omega
    clear hc h
    rcases hcases with rfl | rfl | rfl | rfl | rfl | rfl | rfl
    all_goals
      go_enter Tryd.func14, Tryd.ntmps14
      go_wp2
      go_ret
      exact ⟨by rfl, (Below.refl _ _).alloc (Nat.le_refl _) _⟩
  · cases h
end Go.Proofs.YtaanbojalolhnabDoor.M
