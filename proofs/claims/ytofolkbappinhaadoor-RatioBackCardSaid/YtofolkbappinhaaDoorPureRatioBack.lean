/- For any two ratios: what is added can be taken out again, what is multiplied parted again; no condition. -/
import Derived.Test.YtofolkbappinhaaDoorM30
import Derived.Test.YtofolkbappinhaaDoorPureText
set_option linter.unusedVariables false
set_option linter.unusedSimpArgs false
namespace Go.Proofs.YtofolkbappinhaaDoor.Pure
open Go.RowKit Go.Proofs.YtofolkbappinhaaDoor.M Go.Proofs.YtofolkbappinhaaDoorW.PrintWords Go.Proofs.YtofolkbappinhaaDoorW.PrintLast
set_option maxRecDepth 100000

theorem RatioBack : partitalaw01_RatioBack.Pure := by
  intro x1 x2 y1 y2 hx1 hx2 hy1 hy2
  obtain ⟨a, b, e1, hr⟩ := Ratio_eq (k := 1000) (by omega) (wf64 hx1) (wf64 hx2)
  obtain ⟨c, d, e2, hs⟩ := Ratio_eq (k := 1000) (by omega) (wf64 hy1) (wf64 hy2)
  refine ⟨1000, ?_⟩
  unfold partitalaw01_RatioBack.f
  obtain ⟨ia, ib⟩ := Rt_I64 hr
  obtain ⟨ic, id⟩ := Rt_I64 hs
  have hb0 : b ≠ 0 := by have := hr.1; omega
  have hd0 : d ≠ 0 := by have := hs.1; omega
  have r01 : Rt 0 1 := Rt_one (by decide)
  have r11 : Rt 1 1 := Rt_one (by decide)
  rw [examples_ok, Option.bind_some, if_pos rfl, e1, Option.bind_some, e2, Option.bind_some]
  dsimp only
  have sxx : subS a b a b = (0, 1, 0) := by
    unfold subS
    rw [if_pos ⟨hr, hr⟩]
    exact ofS_is (Int.mul_ne_zero hb0 hb0) r01 (by rw [Int.sub_self]; simp)
  have dyy : divS c d c d = if c = 0 then (0, 0, 11) else (1, 1, 0) := by
    unfold divS
    rw [if_pos ⟨hs, hs⟩]
    by_cases hc : c = 0
    · rw [if_pos hc, hc, Int.mul_zero, ofS_0]
    · rw [if_neg hc]
      exact ofS_is (Int.mul_ne_zero hd0 hc) r11 (by rw [Int.one_mul, Int.mul_one, Int.mul_comm])
  obtain ⟨s1, s2, s3, hsum, i1, i2, back⟩ : ∃ s1 s2 s3, addS a b c d = (s1, s2, s3) ∧ I64 s1 ∧ I64 s2 ∧ (s3 = 0 → subS s1 s2 c d = (a, b, 0)) := by
    unfold addS
    rw [if_pos ⟨hr, hs⟩]
    rcases ofS_spec (a * d + c * b) (den := b * d) (Int.mul_ne_zero hb0 hd0) with ⟨u, v, f1, f2, f3⟩ | ⟨f1, _⟩
    · obtain ⟨iu, iv⟩ := Rt_I64 f2
      refine ⟨u, v, 0, f1, iu, iv, fun _ => ?_⟩
      unfold subS
      rw [if_pos ⟨f2, hs⟩]
      have hv0 : v ≠ 0 := by have := f2.1; omega
      exact ofS_is (Int.mul_ne_zero hv0 hd0) hr (by grind)
    · exact ⟨0, 0, 10, f1, ⟨by decide, by decide⟩, ⟨by decide, by decide⟩, fun h => by simp at h⟩
  obtain ⟨m1, m2, m3, hmul, j1, j2, mback⟩ : ∃ s1 s2 s3, mulS a b c d = (s1, s2, s3) ∧ I64 s1 ∧ I64 s2 ∧ (s3 = 0 → c ≠ 0 → divS s1 s2 c d = (a, b, 0)) := by
    unfold mulS
    rw [if_pos ⟨hr, hs⟩]
    rcases ofS_spec (a * c) (den := b * d) (Int.mul_ne_zero hb0 hd0) with ⟨u, v, f1, f2, f3⟩ | ⟨f1, _⟩
    · obtain ⟨iu, iv⟩ := Rt_I64 f2
      refine ⟨u, v, 0, f1, iu, iv, fun _ hc => ?_⟩
      unfold divS
      rw [if_pos ⟨f2, hs⟩]
      have hv0 : v ≠ 0 := by have := f2.1; omega
      exact ofS_is (Int.mul_ne_zero hv0 hc) hr (by grind)
    · exact ⟨0, 0, 10, f1, ⟨by decide, by decide⟩, ⟨by decide, by decide⟩, fun h => by simp at h⟩
  rw [Add_eq (by omega) ia ib ic id, hsum, Option.bind_some]
  dsimp only
  rw [Sub_eq (by omega) i1 i2 ic id, Option.bind_some, Mul_eq (by omega) ia ib ic id, hmul, Option.bind_some]
  dsimp only
  rw [Div_eq (by omega) j1 j2 ic id, Option.bind_some, Sub_eq (by omega) ia ib ia ib, Option.bind_some, Div_eq (by omega) ic id ic id, Option.bind_some, sxx, dyy]
  dsimp only
  have tail : ∀ (A B : Int × Int × Int), (A = divS m1 m2 c d) → partitalaw01_RatioBack.j0 1000 true m3 A.2.2 (if c = 0 then ((0 : Int), (0 : Int), (11 : Int)) else (1, 1, 0)).2.2 (!((0 : Int) == 0) || !((1 : Int) == 1)) a b c d A.1 A.2.1 (if c = 0 then ((0 : Int), (0 : Int), (11 : Int)) else (1, 1, 0)).1 (if c = 0 then ((0 : Int), (0 : Int), (11 : Int)) else (1, 1, 0)).2.1 = some true := by
    intro A B hA
    rw [partitalaw01_RatioBack.j0, if_neg (by decide)]
    by_cases hc : c = 0
    · rw [if_pos hc, if_pos rfl, if_pos hc]
      simp
    · rw [if_neg hc, if_pos rfl, if_neg hc]
      by_cases hm : m3 = 0
      · rw [if_pos hm, hA, mback hm hc]
        simp
      · rw [if_neg hm]
        simp
  by_cases h0 : s3 = 0
  · rw [if_pos h0, back h0]
    dsimp only
    rw [if_pos rfl, if_neg (by simp), if_pos rfl]
    exact tail _ (0, 0, 0) rfl
  · rw [if_neg h0, if_pos rfl]
    exact tail _ (0, 0, 0) rfl

end Go.Proofs.YtofolkbappinhaaDoor.Pure
