/- For any three raw pitches: right pitches are in one order; no condition. -/
import Derived.Test.YtnpinngdiipogaaDoorM23
import Derived.Test.YtnpinngdiipogaaDoorPureBase
set_option linter.unusedVariables false
set_option linter.unusedSimpArgs false
namespace Go.Proofs.YtnpinngdiipogaaDoor.Pure
open Go.RowKit Go.Proofs.YtnpinngdiipogaaDoor.M Go.Proofs.YtnpinngdiipogaaDoorW.PrintWords Go.Proofs.YtnpinngdiipogaaDoorW.PrintLast
set_option maxRecDepth 100000

theorem tree {A : Bool → Option Bool} (x y z : Int) (h1 : x < 0 → y < 0 → z < 0) (h2 : x > 0 → y > 0 → z > 0) (h3 : x = 0 → z = y) (hA : A false = some true) :
    (if x < 0 then (if y < 0 then (if z ≥ 0 then (A true) else (if x > 0 then (if y > 0 then (if z ≤ 0 then (A true) else (if x = 0 then (A (z != y)) else (A false))) else (if x = 0 then (A (z != y)) else (A false))) else (if x = 0 then (A (z != y)) else (A false)))) else (if x > 0 then (if y > 0 then (if z ≤ 0 then (A true) else (if x = 0 then (A (z != y)) else (A false))) else (if x = 0 then (A (z != y)) else (A false))) else (if x = 0 then (A (z != y)) else (A false)))) else (if x > 0 then (if y > 0 then (if z ≤ 0 then (A true) else (if x = 0 then (A (z != y)) else (A false))) else (if x = 0 then (A (z != y)) else (A false))) else (if x = 0 then (A (z != y)) else (A false)))) = some true := by
  have h4 : x = 0 → A (z != y) = some true := fun h => by rw [h3 h, bne_self_eq_false, hA]
  repeat' split
  all_goals first
    | exact hA
    | exact h4 (by assumption)
    | (exfalso; rename_i q1 q2 q3; have := h1 (by omega) (by omega); omega)
    | (exfalso; rename_i q1 q2 q3; have := h2 (by omega) (by omega); omega)
theorem cmp_three {s a o t b p : Int} (h1 : R s a o) (h2 : R t b p) : (cmpS s a o t b p = -1 ∧ (num s a o < num t b p ∨ num s a o = num t b p ∧ 7 * o + s < 7 * p + t)) ∨ (cmpS s a o t b p = 1 ∧ (num s a o > num t b p ∨ num s a o = num t b p ∧ 7 * o + s > 7 * p + t)) ∨ (cmpS s a o t b p = 0 ∧ num s a o = num t b p ∧ 7 * o + s = 7 * p + t) := by
  unfold cmpS
  rw [if_pos ⟨h1, h2⟩]
  by_cases c1 : num s a o < num t b p
  · rw [if_pos c1]; omega
  rw [if_neg c1]
  by_cases c2 : num s a o > num t b p
  · rw [if_pos c2]; omega
  rw [if_neg c2]
  by_cases c3 : 7 * o + s < 7 * p + t
  · rw [if_pos c3]; omega
  rw [if_neg c3]
  by_cases c4 : 7 * o + s > 7 * p + t
  · rw [if_pos c4]; omega
  rw [if_neg c4]; omega
theorem PitchOrder : partitalaw02_PitchOrder.Pure := by
  intro a1 a2 a3 b1 b2 b3 c1 c2 c3 ha1 ha2 ha3 hb1 hb2 hb3 hc1 hc2 hc3
  obtain ⟨s, a, o, e1, r1⟩ := Pitch_eq ha1 ha2 ha3
  obtain ⟨t, b, p, e2, r2⟩ := Pitch_eq hb1 hb2 hb3
  obtain ⟨u, c, q, e3, r3⟩ := Pitch_eq hc1 hc2 hc3
  refine ⟨1000, ?_⟩
  unfold partitalaw02_PitchOrder.f
  rw [awake_ok, Option.bind_some, e1, Option.bind_some, e2, Option.bind_some, e3, Option.bind_some, Compare_k, Option.bind_some, Compare_k, Option.bind_some, Compare_k, Option.bind_some, Number_eq, Option.bind_some, Number_eq, Option.bind_some]
  dsimp only
  rw [if_pos r1, if_pos r2]
  have k1 := cmp_three r1 r2
  have k2 := cmp_three r2 r3
  have k3 := cmp_three r1 r3
  have k4 := cmp_three r2 r1
  refine tree (A := fun f => partitalaw02_PitchOrder.j0 1000 true (cmpS s a o t b p) (num s a o) 0 (num t b p) 0 f s a o t b p) _ _ _ (by omega) (by omega) (by omega) ?_
  show partitalaw02_PitchOrder.j0 1000 true (cmpS s a o t b p) (num s a o) 0 (num t b p) 0 false s a o t b p = some true
  rw [show (1000 : Nat) = 995 + 4 + 1 from rfl, partitalaw02_PitchOrder.j0, if_neg (by decide), if_pos rfl, if_pos rfl, if_pos rfl, Compare_eq, Option.bind_some, wr (x := -cmpS s a o t b p) (by omega) (by omega), if_pos (by omega)]
  have hsame : ((cmpS s a o t b p == 0) == (s == t && (a == b && (o == p)))) = true := by
    rw [beq_iff_eq, Bool.eq_iff_iff]
    simp only [beq_iff_eq, Bool.and_eq_true]
    constructor
    · intro h
      have h5 : num s a o = num t b p ∧ 7 * o + s = 7 * p + t := by omega
      obtain ⟨x0, x1, x2, x3, x4, x5, _, _⟩ := r1
      obtain ⟨y0, y1, y2, y3, y4, y5, _, _⟩ := r2
      have hst : s = t := by omega
      subst hst
      have hop : o = p := by omega
      subst hop
      refine ⟨rfl, ?_, rfl⟩
      have h6 := h5.1
      unfold num at h6
      omega
    · rintro ⟨rfl, rfl, rfl⟩
      omega
  rw [if_pos hsame, if_pos (by omega), if_pos (by omega)]
  by_cases hn : num s a o = num t b p
  · rw [if_pos hn]
    rfl
  · rw [if_neg hn]
    have : (decide (num s a o < num t b p) == decide (cmpS s a o t b p < 0)) = true := by
      rw [beq_iff_eq, decide_eq_decide]
      omega
    rw [this]
    rfl

end Go.Proofs.YtnpinngdiipogaaDoor.Pure
