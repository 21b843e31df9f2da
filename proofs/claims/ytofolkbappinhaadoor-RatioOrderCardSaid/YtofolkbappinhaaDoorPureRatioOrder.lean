/- For any three ratios: they are in one order, and a sum with more is more; no condition. -/
import Derived.Test.YtofolkbappinhaaDoorM31
import Derived.Test.YtofolkbappinhaaDoorPureText
set_option linter.unusedVariables false
set_option linter.unusedSimpArgs false
namespace Go.Proofs.YtofolkbappinhaaDoor.Pure
open Go.RowKit Go.Proofs.YtofolkbappinhaaDoor.M Go.Proofs.YtofolkbappinhaaDoorW.PrintWords Go.Proofs.YtofolkbappinhaaDoorW.PrintLast
set_option maxRecDepth 100000

theorem cmp_rev {a b c d : Int} (h1 : Rt a b) (h2 : Rt c d) : cmpS a b c d = -cmpS c d a b ∧ (cmpS a b c d = 0 ↔ a = c ∧ b = d) ∧ -1 ≤ cmpS a b c d ∧ cmpS a b c d ≤ 1 := by
  unfold cmpS
  rw [if_pos (c := Rt a b ∧ Rt c d) ⟨h1, h2⟩, if_pos (c := Rt c d ∧ Rt a b) ⟨h2, h1⟩]
  refine ⟨?_, ?_, ?_, ?_⟩
  · by_cases l : a * d < c * b
    · rw [if_pos l, if_neg (by omega), if_pos l]
    · rw [if_neg l]
      by_cases g : a * d > c * b
      · rw [if_pos g, if_pos g]; rfl
      · rw [if_neg g, if_neg g, if_neg l]; rfl
  · constructor
    · intro h
      have e : a * d = c * b := by
        by_cases l : a * d < c * b
        · rw [if_pos l] at h; omega
        · rw [if_neg l] at h
          by_cases g : a * d > c * b
          · rw [if_pos g] at h; omega
          · omega
      exact Rt_unique h1 h2 e
    · rintro ⟨rfl, rfl⟩
      rw [if_neg (by omega), if_neg (by omega)]
  · split
    · omega
    · split <;> omega
  · split
    · omega
    · split <;> omega
theorem cmp_le {a b c d : Int} (h1 : Rt a b) (h2 : Rt c d) : cmpS a b c d ≤ 0 ↔ a * d ≤ c * b := by
  unfold cmpS
  rw [if_pos ⟨h1, h2⟩]
  constructor
  · intro h
    by_cases l : a * d < c * b
    · omega
    · rw [if_neg l] at h
      by_cases g : a * d > c * b
      · rw [if_pos g] at h; omega
      · omega
  · intro h
    by_cases l : a * d < c * b
    · rw [if_pos l]; decide
    · rw [if_neg l, if_neg (by omega)]; decide
theorem cmp_trans {a b c d e f : Int} (h1 : Rt a b) (h2 : Rt c d) (h3 : Rt e f) (l1 : cmpS a b c d ≤ 0) (l2 : cmpS c d e f ≤ 0) : cmpS a b e f ≤ 0 := by
  rw [cmp_le h1 h2] at l1
  rw [cmp_le h2 h3] at l2
  rw [cmp_le h1 h3]
  have hb := h1.1
  have hd := h2.1
  have hf := h3.1
  have m1 := Int.mul_le_mul_of_nonneg_right l1 (show 0 ≤ f by omega)
  have m2 := Int.mul_le_mul_of_nonneg_right l2 (show 0 ≤ b by omega)
  have m3 : a * f * d ≤ e * b * d := by
    rw [show a * f * d = a * d * f by rw [Int.mul_right_comm], show e * b * d = e * d * b by rw [Int.mul_right_comm]]
    rw [show c * b * f = c * f * b by rw [Int.mul_right_comm]] at m1
    omega
  exact Int.le_of_mul_le_mul_right m3 (by omega)
theorem cmp_add {a b c d e f s t u v : Int} (h1 : Rt a b) (h2 : Rt c d) (h3 : Rt e f) (hs : Rt s t) (hu : Rt u v) (e1 : s * (b * f) = (a * f + e * b) * t) (e2 : u * (d * f) = (c * f + e * d) * v) : cmpS s t u v = cmpS a b c d := by
  have hb := h1.1
  have hd := h2.1
  have hf := h3.1
  have ht := hs.1
  have hv := hu.1
  have bf : 0 < b * f := Int.mul_pos (by omega) (by omega)
  have df : 0 < d * f := Int.mul_pos (by omega) (by omega)
  have tv : 0 < t * v := Int.mul_pos (by omega) (by omega)
  have ff : 0 < f * f := Int.mul_pos (by omega) (by omega)
  have K : 0 < (t * v) * (f * f) := Int.mul_pos tv ff
  have M : 0 < (b * f) * (d * f) := Int.mul_pos bf df
  have key : (s * v - u * t) * ((b * f) * (d * f)) = (a * d - c * b) * ((t * v) * (f * f)) := by grind
  unfold cmpS
  rw [if_pos (c := Rt s t ∧ Rt u v) ⟨hs, hu⟩, if_pos (c := Rt a b ∧ Rt c d) ⟨h1, h2⟩]
  have pos : ∀ {x y A B : Int}, 0 < A → 0 < B → x * A = y * B → (x < 0 ↔ y < 0) ∧ (x > 0 ↔ y > 0) := by
    intro x y A B hA hB h
    constructor
    · constructor
      · intro hx
        have : x * A < 0 := Int.mul_neg_of_neg_of_pos hx hA
        rcases Int.lt_or_le y 0 with h' | h'
        · exact h'
        · have := Int.mul_nonneg h' (show 0 ≤ B by omega); omega
      · intro hy
        have : y * B < 0 := Int.mul_neg_of_neg_of_pos hy hB
        rcases Int.lt_or_le x 0 with h' | h'
        · exact h'
        · have := Int.mul_nonneg h' (show 0 ≤ A by omega); omega
    · constructor
      · intro hx
        have : 0 < x * A := Int.mul_pos hx hA
        rcases Int.lt_or_le 0 y with h' | h'
        · exact h'
        · have := Int.mul_nonpos_of_nonpos_of_nonneg h' (show 0 ≤ B by omega); omega
      · intro hy
        have : 0 < y * B := Int.mul_pos hy hB
        rcases Int.lt_or_le 0 x with h' | h'
        · exact h'
        · have := Int.mul_nonpos_of_nonpos_of_nonneg h' (show 0 ≤ A by omega); omega
  have P := pos M K key
  by_cases l : a * d < c * b
  · rw [if_pos l, if_pos (by omega)]
  · rw [if_neg l, if_neg (by omega)]
    by_cases g : a * d > c * b
    · rw [if_pos g, if_pos (by omega)]
    · rw [if_neg g, if_neg (by omega)]
/-- a sum: it is right and is the sum, or there is none -/
theorem add_cases {a b c d : Int} (h1 : Rt a b) (h2 : Rt c d) : (∃ u v, addS a b c d = (u, v, 0) ∧ Rt u v ∧ u * (b * d) = (a * d + c * b) * v) ∨ addS a b c d = (0, 0, 10) := by
  unfold addS
  rw [if_pos ⟨h1, h2⟩]
  rcases ofS_spec (a * d + c * b) (den := b * d) (Int.mul_ne_zero (by have := h1.1; omega) (by have := h2.1; omega)) with ⟨u, v, f1, f2, f3⟩ | ⟨f1, _⟩
  · exact .inl ⟨u, v, f1, f2, f3⟩
  · exact .inr f1

theorem RatioOrder : partitalaw01_RatioOrder.Pure := by
  intro x1 x2 y1 y2 z1 z2 hx1 hx2 hy1 hy2 hz1 hz2
  obtain ⟨a, b, e1, h1⟩ := Ratio_eq (k := 1000) (by omega) (wf64 hx1) (wf64 hx2)
  obtain ⟨c, d, e2, h2⟩ := Ratio_eq (k := 1000) (by omega) (wf64 hy1) (wf64 hy2)
  obtain ⟨e, f, e3, h3⟩ := Ratio_eq (k := 1000) (by omega) (wf64 hz1) (wf64 hz2)
  obtain ⟨ia, ib⟩ := Rt_I64 h1
  obtain ⟨ic, id⟩ := Rt_I64 h2
  obtain ⟨ie, jf⟩ := Rt_I64 h3
  have i0 : I64 0 := ⟨by decide, by decide⟩
  have i2 : I64 2 := ⟨by decide, by decide⟩
  have i4 : I64 4 := ⟨by decide, by decide⟩
  refine ⟨1000, ?_⟩
  unfold partitalaw01_RatioOrder.f
  obtain ⟨k1, k2, k3, k4⟩ := cmp_rev h1 h2
  obtain ⟨k1', k2', k3', k4'⟩ := cmp_rev h2 h1
  rw [examples_ok, Option.bind_some, if_pos rfl, e1, Option.bind_some, e2, Option.bind_some, e3, Option.bind_some]
  dsimp only
  rw [Compare_eq (by omega) ia ib ic id, Option.bind_some, Compare_eq (by omega) ic id ia ib, Option.bind_some, wr (x := -cmpS c d a b) (by omega) (by omega), if_pos k1]
  have hsame : ((cmpS a b c d == 0) != (a == c && (b == d))) = false := by
    rw [bne_eq_false_iff_eq, Bool.eq_iff_iff]
    simp only [beq_iff_eq, Bool.and_eq_true]
    exact k2
  rw [if_neg (by rw [hsame]; decide), if_neg (by omega), decide_eq_false (by omega)]
  have j1 : partitalaw01_RatioOrder.j1 999 true (cmpS a b c d) false a b c d e f = some true := by
    rw [show (999 : Nat) = 998 + 1 from rfl, partitalaw01_RatioOrder.j1, if_neg (by decide), Add_eq (by omega) ia ib ie jf, Option.bind_some, Add_eq (by omega) ic id ie jf, Option.bind_some, if_pos rfl]
    have r0 : ¬ Rt 0 0 := fun h => by have := h.1; omega
    have r24 : ¬ Rt 2 4 := fun h => by have := h.2.2.2; revert this; decide
    have c0 : cmpS a b 0 0 = 0 := by unfold cmpS; rw [if_neg (fun h => r0 h.2)]
    have c24 : cmpS 2 4 a b = 0 := by unfold cmpS; rw [if_neg (fun h => r24 h.1)]
    have last : ((ratio_Compare.f 998 a b 0 0).bind fun t561 => (if t561 = 0 then ((ratio_Compare.f 998 2 4 a b).bind fun t562 => (some (t562 == 0))) else (some false))) = some true := by
      rw [Compare_eq (by omega) ia ib i0 i0, c0, Option.bind_some, if_pos rfl, Compare_eq (by omega) i2 i4 ia ib, c24]
      rfl
    rcases add_cases h1 h3 with ⟨s, t, a1, a2, a3⟩ | a1
    · rcases add_cases h2 h3 with ⟨u, v, b1, b2, b3⟩ | b1
      · obtain ⟨is, it⟩ := Rt_I64 a2
        obtain ⟨iu, iv⟩ := Rt_I64 b2
        rw [a1, b1]
        dsimp only
        rw [if_pos rfl, if_pos rfl, Compare_eq (by omega) is it iu iv, cmp_add h1 h2 h3 a2 b2 a3 b3, Option.bind_some, if_pos rfl]
        exact last
      · rw [a1, b1]
        dsimp only
        rw [if_pos rfl, if_neg (by decide)]
        exact last
    · rw [a1]
      dsimp only
      rw [if_neg (by decide)]
      exact last
  have j1' : partitalaw01_RatioOrder.j1 999 true (cmpS a b c d) false a b c d e f = some true := j1
  rw [show (1000 : Nat) = 999 + 1 from rfl, partitalaw01_RatioOrder.j0, if_neg (by decide)]
  by_cases l1 : cmpS a b c d ≤ 0
  · rw [if_pos l1, Compare_eq (by omega) ic id ie jf, Option.bind_some]
    by_cases l2 : cmpS c d e f ≤ 0
    · have l3 := cmp_trans h1 h2 h3 l1 l2
      rw [if_pos l2, Compare_eq (by omega) ia ib ie jf, Option.bind_some, decide_eq_false (by omega)]
      exact j1'
    · rw [if_neg l2]
      exact j1'
  · rw [if_neg l1]
    exact j1'

end Go.Proofs.YtofolkbappinhaaDoor.Pure
