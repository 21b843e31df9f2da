/- The maker of right values; the examples hold. -/
import Derived.Test.YtajbnfidcpfonaaGreatDoorM15
import Derived.Test.YtajbnfidcpfonaaGreatDoorZ3
import Derived.Test.YtajbnfidcpfonaaGreatDoorPureBase
set_option linter.unusedVariables false
set_option linter.unusedSimpArgs false
namespace Go.Proofs.YtajbnfidcpfonaaGreatDoor.Pure
open Go.RowKit Go.Proofs.YtajbnfidcpfonaaGreatDoor.M Go.Proofs.YtajbnfidcpfonaaGreatDoorW.PrintWords Go.Proofs.YtajbnfidcpfonaaGreatDoorW.PrintLast Go.Proofs.YtajbnfidcpfonaaGreatDoorW.PrintMore

theorem pickR {c n : Int} (h : I64 c) (h0 : 0 < n) (h1 : n ≤ 1000000000) : ∃ r, partitalaw04_pick.f c n = some r ∧ 0 ≤ r ∧ r < n := pick_eq h h0 h1
def VR (b d n m : Int) : Prop := 0 ≤ b ∧ b < 7 ∧ 0 ≤ d ∧ d < 3 ∧ ((n = 0 ∧ m = 0) ∨ (2 ≤ n ∧ n ≤ 15 ∧ 1 ≤ m ∧ m ≤ 15 ∧ n ≠ m))
theorem Value_eq {k : Nat} {a0 a1 a2 a3 : Int} (h0 : I64 a0) (h1 : I64 a1) (h2 : I64 a2) (h3 : I64 a3) : ∃ b d n m, z_Value.f k a0 a1 a2 a3 = some (b, d, n, m) ∧ VR b d n m := by
  obtain ⟨b, e0, b0, b1⟩ := pickR (n := 7) h0 (by decide) (by decide)
  obtain ⟨d, e1, d0, d1⟩ := pickR (n := 3) h1 (by decide) (by decide)
  obtain ⟨q, e2, q0, q1⟩ := pickR (n := 4) h2 (by decide) (by decide)
  obtain ⟨r, e3, r0, r1⟩ := pickR (n := 14) h2 (by decide) (by decide)
  obtain ⟨s, e4, s0, s1⟩ := pickR (n := 15) h3 (by decide) (by decide)
  unfold z_Value.f z_Value.t
  rw [e0, Option.bind_some, e1, Option.bind_some, e2, Option.bind_some]
  by_cases hq : q > 0
  · rw [decide_eq_true hq, cond_true, e3, Option.bind_some, e4, Option.bind_some, Go.IntWalk.i64_left, Go.IntWalk.i64_left, Go.IntWalk.i64_left, wr (x := 2 + r) (by omega) (by omega), wr (x := 1 + s) (by omega) (by omega), wr (x := 2 + r - 1) (by omega) (by omega)]
    by_cases he : 2 + r = 1 + s
    · rw [show ((2 + r == 1 + s) = true) from beq_iff_eq.2 he, cond_true]; exact ⟨_, _, _, _, rfl, b0, b1, d0, d1, .inr ⟨by omega, by omega, by omega, by omega, by omega⟩⟩
    · rw [show ((2 + r == 1 + s) = false) from beq_eq_false_iff_ne.2 he, cond_false]; exact ⟨_, _, _, _, rfl, b0, b1, d0, d1, .inr ⟨by omega, by omega, by omega, by omega, he⟩⟩
  · rw [decide_eq_false hq, cond_false]; exact ⟨_, _, _, _, rfl, b0, b1, d0, d1, .inl ⟨rfl, rfl⟩⟩
set_option maxRecDepth 100000 in
theorem examples_ok : partitalaw04_examples.f 200 = some true := by decide +kernel
def nms : List (Int × Int) := (0, 0) :: ((List.range 14).flatMap fun i => ((List.range 15).filter fun j => i + 2 ≠ j + 1).map fun j => (((i + 2 : Nat) : Int), ((j + 1 : Nat) : Int)))
theorem nms_mem {n m : Int} (h : (n = 0 ∧ m = 0) ∨ (2 ≤ n ∧ n ≤ 15 ∧ 1 ≤ m ∧ m ≤ 15 ∧ n ≠ m)) : (n, m) ∈ nms := by
  unfold nms
  rcases h with ⟨rfl, rfl⟩ | ⟨h1, h2, h3, h4, h5⟩
  · exact List.mem_cons_self
  · refine List.mem_cons_of_mem _ (List.mem_flatMap.2 ⟨(n - 2).toNat, List.mem_range.2 (by omega), List.mem_map.2 ⟨(m - 1).toNat, List.mem_filter.2 ⟨List.mem_range.2 (by omega), by simp; omega⟩, ?_⟩⟩)
    rw [show (((n - 2).toNat + 2 : Nat) : Int) = n by omega, show (((m - 1).toNat + 1 : Nat) : Int) = m by omega]

end Go.Proofs.YtajbnfidcpfonaaGreatDoor.Pure
