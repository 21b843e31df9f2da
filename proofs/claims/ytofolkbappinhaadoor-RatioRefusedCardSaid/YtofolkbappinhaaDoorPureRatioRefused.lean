/- For any ratio: what is no right one is refused by all, and nothing but that; no condition. -/
import Derived.Test.YtofolkbappinhaaDoorM34
import Derived.Test.YtofolkbappinhaaDoorPureText
set_option linter.unusedVariables false
set_option linter.unusedSimpArgs false
namespace Go.Proofs.YtofolkbappinhaaDoor.Pure
open Go.RowKit Go.Proofs.YtofolkbappinhaaDoor.M Go.Proofs.YtofolkbappinhaaDoorW.PrintWords Go.Proofs.YtofolkbappinhaaDoorW.PrintLast
set_option maxRecDepth 100000

theorem RatioRefused : partitalaw01_RatioRefused.Pure := by
  intro a b x y ha hb hx hy
  obtain ⟨p, q, e1, hr⟩ := Ratio_eq (k := 1000) (by omega) (wf64 hx) (wf64 hy)
  refine ⟨1000, ?_⟩
  unfold partitalaw01_RatioRefused.f
  obtain ⟨ip, iq⟩ := Rt_I64 hr
  have ia := wf64 ha
  have ib := wf64 hb
  have i0 : I64 0 := ⟨by decide, by decide⟩
  have i1 : I64 1 := ⟨by decide, by decide⟩
  have i2 : I64 2 := ⟨by decide, by decide⟩
  have iM : I64 1000000000 := ⟨by decide, by decide⟩
  rw [examples_ok, Option.bind_some, if_pos rfl, e1, Option.bind_some]
  dsimp only
  rw [Add_eq (by omega) ia ib ip iq, Mul_eq (by omega) ip iq ia ib, Text_eq (by omega) ia ib, Floor_eq (by omega) ia ib, right_eq (by omega) ia ib]
  simp only [Option.bind_some]
  by_cases h : Rt a b
  · have r01 : Rt 0 1 := Rt_one (by decide)
    have r11 : Rt 1 1 := Rt_one (by decide)
    have rM : Rt 1000000000 1 := Rt_one (by decide)
    have rM2 : Rt 1 1000000000 := ⟨by decide, by decide, by decide, Nat.gcd_one_left _⟩
    have r12 : Rt 1 2 := ⟨by decide, by decide, by decide, Nat.gcd_one_left _⟩
    have z1 : addS a b 0 1 = (a, b, 0) := by
      unfold addS
      rw [if_pos ⟨h, r01⟩, Int.mul_one, Int.zero_mul, Int.add_zero, Int.mul_one]
      exact ofS_Rt h
    have z2 : mulS a b 1 1 = (a, b, 0) := by
      unfold mulS
      rw [if_pos ⟨h, r11⟩, Int.mul_one, Int.mul_one]
      exact ofS_Rt h
    have z3 : addS 1000000000 1 1 1 = (0, 0, 10) := by
      unfold addS
      rw [if_pos ⟨rM, r11⟩]
      decide +kernel
    have z4 : mulS 1 1000000000 1 2 = (0, 0, 10) := by
      unfold mulS
      rw [if_pos ⟨rM2, r12⟩]
      decide +kernel
    rw [if_pos (by simpa using h), Add_eq (by omega) ia ib i0 i1, Mul_eq (by omega) ia ib i1 i1, Add_eq (by omega) iM i1 i1 i1, Mul_eq (by omega) i1 iM i1 i2, z1, z2, z3, z4]
    unfold floorS
    simp [h]
  · have z1 : addS a b p q = (0, 0, 10) := by unfold addS; rw [if_neg (fun h' => h h'.1)]
    have z2 : mulS p q a b = (0, 0, 10) := by unfold mulS; rw [if_neg (fun h' => h h'.2)]
    have z3 : cmpS a b p q = 0 := by unfold cmpS; rw [if_neg (fun h' => h h'.1)]
    rw [if_neg (by simpa using h), z1, z2, Compare_eq (by omega) ia ib ip iq, z3]
    unfold floorS
    simp [h]

end Go.Proofs.YtofolkbappinhaaDoor.Pure
