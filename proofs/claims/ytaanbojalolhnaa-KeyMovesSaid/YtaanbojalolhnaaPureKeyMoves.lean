/- For every key and interval, key.Move answers as the reference does; no condition. -/
import Derived.Test.YtaanbojalolhnaaM17
import Derived.Test.YtaanbojalolhnaaPureBase
set_option linter.unusedVariables false
set_option linter.unusedSimpArgs false
namespace Go.Proofs.Ytaanbojalolhnaa.Pure
open Go.RowKit Go.Proofs.Ytaanbojalolhnaa.M Go.Proofs.YtaanbojalolhnaaW.PrintWords Go.Proofs.YtaanbojalolhnaaW.PrintLast

theorem right_eq (a : Int) (m : Bool) : partitaref03_Right.f a m = key_Right.f a m := rfl
theorem j0_eq (k : Nat) (x : Bool) (a : Int) (m : Bool) (s h : Int) : partitaref03_Move.j0 k x a m s h = key_Move.j0 k x a m s h := by
  cases k with
  | zero => rfl
  | succ k => rfl
theorem move_eq (k : Nat) (a : Int) (m : Bool) (s h : Int) : partitaref03_Move.f k a m s h = key_Move.f k a m s h := by
  unfold partitaref03_Move.f key_Move.f
  simp only [right_eq, j0_eq]
theorem right_some (a : Int) (m : Bool) : ∃ b, key_Right.f a m = some b := by
  unfold key_Right.f
  split <;> exact ⟨_, rfl⟩
theorem j0_some (k : Nat) (x : Bool) (a : Int) (m : Bool) (s h : Int) : ∃ r, key_Move.j0 (k + 1) x a m s h = some r := by
  simp only [key_Move.j0]
  by_cases hx : x = true
  · rw [if_pos hx]; exact ⟨_, rfl⟩
  · rw [if_neg hx]
    obtain ⟨b, hb⟩ := right_some (wrap64 ((wrap64 (a + (wrap64 (7 * h)))) - (wrap64 (12 * s)))) m
    rw [hb]; simp only [Option.bind_some]
    split <;> exact ⟨_, rfl⟩
theorem move_some (k : Nat) (a : Int) (m : Bool) (s h : Int) : ∃ r, key_Move.f (k + 1) a m s h = some r := by
  obtain ⟨b, hb⟩ := right_some a m
  unfold key_Move.f
  rw [hb]; simp only [Option.bind_some]
  split
  · split
    · exact j0_some ..
    · split
      · exact j0_some ..
      · split <;> exact j0_some ..
  · exact ⟨_, rfl⟩

theorem KeyMoves : partitalaw03_KeyMoves.Pure := by
  intro a m s h _ _ _
  refine ⟨100, ?_⟩
  obtain ⟨r, hr⟩ := move_some 99 a m s h
  simp [partitalaw03_KeyMoves.f, awake_ok, move_eq, hr]

end Go.Proofs.Ytaanbojalolhnaa.Pure
