/- For any three numbers: what is by what is lowered; no condition. -/
import Derived.Test.YtofolkbappinhaaDoorM27
import Derived.Test.YtofolkbappinhaaDoorPureText
set_option linter.unusedVariables false
set_option linter.unusedSimpArgs false
namespace Go.Proofs.YtofolkbappinhaaDoor.Pure
open Go.RowKit Go.Proofs.YtofolkbappinhaaDoor.M Go.Proofs.YtofolkbappinhaaDoorW.PrintWords Go.Proofs.YtofolkbappinhaaDoorW.PrintLast
set_option maxRecDepth 100000

theorem RatioLowest : partitalaw01_RatioLowest.Pure := by
  intro x y z hx hy hz
  obtain ⟨r, e1, r0, r1⟩ := pick_eq (n := 2000001) (wf64 hx) (by omega) (by omega)
  obtain ⟨s, e2, s0, s1⟩ := pick_eq (n := 1000000) (wf64 hy) (by omega) (by omega)
  obtain ⟨t, e3, t0, t1⟩ := pick_eq (n := 1000000) (wf64 hz) (by omega) (by omega)
  refine ⟨1000, ?_⟩
  unfold partitalaw01_RatioLowest.f
  rw [examples_ok, Option.bind_some, if_pos rfl, e1, e2, e3, Option.bind_some, Option.bind_some, Option.bind_some]
  rw [wr (x := r - 1000000) (by omega) (by omega), wr (x := 1 + s) (by omega) (by omega), wr (x := 1 + t) (by omega) (by omega)]
  obtain ⟨n, hn⟩ : ∃ n, n = r - 1000000 := ⟨_, rfl⟩
  obtain ⟨d, hd⟩ : ∃ d, d = 1 + s := ⟨_, rfl⟩
  obtain ⟨m, hm⟩ : ∃ m, m = 1 + t := ⟨_, rfl⟩
  rw [← hn, ← hd, ← hm]
  have bn : n.natAbs ≤ 1000000 := by omega
  have bd : d.natAbs ≤ 1000000 := by omega
  have bm : m.natAbs ≤ 1000000 := by omega
  obtain ⟨p, q, h1, h2, h3⟩ := reduce (n := n) (d := d) (by omega) (by omega) (by omega)
  have b1 := mul_bd bn bm
  have b2 := mul_bd bd bm
  have hm0 : m ≠ 0 := by omega
  have hd0 : d ≠ 0 := by omega
  have z1 : ofS (n * m) (d * m) = (p, q, 0) := ofS_is (Int.mul_ne_zero hd0 hm0) h2 (by rw [← Int.mul_assoc, h3, Int.mul_right_comm])
  have z2 : ofS (-n * m) (-d * m) = (p, q, 0) := ofS_is (Int.mul_ne_zero (by omega) hm0) h2 (by rw [Int.neg_mul, Int.neg_mul, Int.mul_neg, Int.neg_mul, ← Int.mul_assoc, h3, Int.mul_right_comm])
  have h2' := h2
  obtain ⟨q1, p1, q2, g1⟩ := h2'
  have z3 : ofS (-n) d = (-p, q, 0) := ofS_is hd0 ⟨q1, by omega, q2, by rw [Int.natAbs_neg]; exact g1⟩ (by rw [Int.neg_mul, Int.neg_mul, h3])
  have z4 : ofS n 1 = (n, 1, 0) := ofS_Rt (Rt_one (by omega))
  rw [wr (x := -n) (by omega) (by omega), wr (x := -d) (by omega) (by omega), wr (x := n * m) (by omega) (by omega), wr (x := d * m) (by omega) (by omega), wr (x := -n * m) (by rw [Int.neg_mul]; omega) (by rw [Int.neg_mul]; omega), wr (x := -d * m) (by rw [Int.neg_mul]; omega) (by rw [Int.neg_mul]; omega)]
  rw [Of_eq (by omega) ⟨by omega, by omega⟩ ⟨by omega, by omega⟩, Of_eq (by omega) ⟨by omega, by omega⟩ ⟨by omega, by omega⟩, Of_eq (by omega) ⟨by rw [Int.neg_mul]; omega, by rw [Int.neg_mul]; omega⟩ ⟨by rw [Int.neg_mul]; omega, by rw [Int.neg_mul]; omega⟩, Of_eq (by omega) ⟨by omega, by omega⟩ ⟨by omega, by omega⟩, Of_eq (by omega) ⟨by omega, by omega⟩ ⟨by omega, by omega⟩]
  rw [h1, z1, z2, z3, z4]
  simp only [Option.bind_some, if_true]
  rw [right_eq (by omega) ⟨by omega, by omega⟩ ⟨by omega, by omega⟩, decide_eq_true h2, h3, wr (x := -p) (by omega) (by omega)]
  simp

end Go.Proofs.YtofolkbappinhaaDoor.Pure
