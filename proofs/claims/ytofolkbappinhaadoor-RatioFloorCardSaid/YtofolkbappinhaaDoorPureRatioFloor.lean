/- For any ratio: the whole number beneath is not above, and one more is; no condition. -/
import Derived.Test.YtofolkbappinhaaDoorM32
import Derived.Test.YtofolkbappinhaaDoorPureText
set_option linter.unusedVariables false
set_option linter.unusedSimpArgs false
namespace Go.Proofs.YtofolkbappinhaaDoor.Pure
open Go.RowKit Go.Proofs.YtofolkbappinhaaDoor.M Go.Proofs.YtofolkbappinhaaDoorW.PrintWords Go.Proofs.YtofolkbappinhaaDoorW.PrintLast
set_option maxRecDepth 100000

theorem RatioFloor : partitalaw01_RatioFloor.Pure := by
  intro x y hx hy
  obtain ⟨p, q, e1, hr⟩ := Ratio_eq (k := 1000) (by omega) (wf64 hx) (wf64 hy)
  refine ⟨1000, ?_⟩
  unfold partitalaw01_RatioFloor.f
  obtain ⟨ip, iq⟩ := Rt_I64 hr
  have hr' := hr
  obtain ⟨q1, p1, q2, g1⟩ := hr'
  rw [examples_ok, Option.bind_some, if_pos rfl, e1, Option.bind_some]
  dsimp only
  rw [Floor_eq (by omega) ip iq, Option.bind_some]
  unfold floorS
  rw [if_pos hr]
  dsimp only
  have d1 := Int.mul_ediv_add_emod p q
  have d2 := Int.emod_nonneg p (show q ≠ 0 by omega)
  have d3 := Int.emod_lt_of_pos p (show 0 < q by omega)
  have nb : (p / q).natAbs ≤ 1000000000 := by
    have hlo : -1000000000 ≤ p / q := (Int.le_ediv_iff_mul_le (by omega)).2 (by omega)
    have hhi : p / q ≤ 1000000000 := by
      refine Int.le_of_lt_add_one ((Int.ediv_lt_iff_lt_mul (by omega)).2 ?_)
      omega
    omega
  generalize hn : p / q = n at d1 nb ⊢
  rw [wr (x := n + 1) (by omega) (by omega), wr (x := -q) (by omega) (by omega)]
  rw [Of_eq (by omega) ⟨by omega, by omega⟩ ⟨by omega, by omega⟩, Of_eq (by omega) ⟨by omega, by omega⟩ ⟨by omega, by omega⟩, Floor_eq (by omega) ip ⟨by omega, by omega⟩, ofS_Rt (Rt_one nb)]
  unfold floorS
  rw [if_neg (fun h => by have := h.1; omega)]
  simp only [Option.bind_some, if_true]
  rw [Compare_eq (by omega) ⟨by omega, by omega⟩ ⟨by omega, by omega⟩ ip iq]
  have c1 : cmpS n 1 p q ≤ 0 := by
    unfold cmpS
    rw [if_pos ⟨Rt_one nb, hr⟩]
    rw [Int.mul_comm q n] at d1
    split
    · decide
    · rw [if_neg (by omega)]; decide
  rw [Option.bind_some, if_pos c1]
  have last : (if q = 1 then (if n = p then (some ((10 : Int) == 10)) else (some false)) else (some ((10 : Int) == 10))) = some true := by
    by_cases h : q = 1
    · rw [if_pos h, if_pos (by rw [← hn, h, Int.ediv_one])]; rfl
    · rw [if_neg h]; rfl
  rcases ofS_spec (n + 1) (den := 1) (by decide) with ⟨u, v, f1, f2, f3⟩ | ⟨f1, _⟩
  · rw [f1]
    dsimp only
    obtain ⟨iu, iv⟩ := Rt_I64 f2
    rw [if_pos rfl, Compare_eq (by omega) ip iq iu iv, Option.bind_some]
    have c2 : cmpS p q u v = -1 := by
      unfold cmpS
      rw [if_pos ⟨hr, f2⟩, if_pos]
      have hv := f2.1
      have h0 : p < (n + 1) * q := by rw [Int.add_mul, Int.mul_comm n q]; omega
      have h2 := Int.mul_lt_mul_of_pos_right h0 (show 0 < v by omega)
      rw [Int.mul_one] at f3
      rw [f3, Int.mul_right_comm]
      exact h2
    rw [c2, if_pos (by decide)]
    exact last
  · rw [f1]
    dsimp only
    rw [if_neg (by decide)]
    exact last

end Go.Proofs.YtofolkbappinhaaDoor.Pure
