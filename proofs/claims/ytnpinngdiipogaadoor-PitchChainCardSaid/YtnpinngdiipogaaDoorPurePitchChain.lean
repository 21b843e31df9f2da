/- For any raw pitch and two raw intervals: up by one, and then by the other, is up by both; no condition. -/
import Derived.Test.YtnpinngdiipogaaDoorM22
import Derived.Test.YtnpinngdiipogaaDoorPureBase
set_option linter.unusedVariables false
set_option linter.unusedSimpArgs false
namespace Go.Proofs.YtnpinngdiipogaaDoor.Pure
open Go.RowKit Go.Proofs.YtnpinngdiipogaaDoor.M Go.Proofs.YtnpinngdiipogaaDoorW.PrintWords Go.Proofs.YtnpinngdiipogaaDoorW.PrintLast
set_option maxRecDepth 100000

/-- the pitch of a line and a number, if there is one -/
def G (L n : Int) : Int × Int × Int × Int :=
  if 0 ≤ L + 7 ∧ R ((L + 7) % 7) (n - num ((L + 7) % 7) 0 ((L + 7) / 7 - 1)) ((L + 7) / 7 - 1) then ((L + 7) % 7, n - num ((L + 7) % 7) 0 ((L + 7) / 7 - 1), (L + 7) / 7 - 1, 0) else (0, 0, 0, 20)
theorem upS_G {s a o st h : Int} (r : R s a o) (h1 : -77 ≤ st) (h2 : st ≤ 77) (h3 : -254 ≤ h) (h4 : h ≤ 254) : upS s a o st h = G (7 * o + s + st) (num s a o + h) := by
  unfold upS G
  by_cases c : 0 ≤ 7 * o + s + st + 7 ∧ R ((7 * o + s + st + 7) % 7) (num s a o + h - num ((7 * o + s + st + 7) % 7) 0 ((7 * o + s + st + 7) / 7 - 1)) ((7 * o + s + st + 7) / 7 - 1)
  · rw [if_pos c, if_pos ⟨r, h1, h2, h3, h4, c.1, c.2⟩]
  · rw [if_neg c, if_neg (fun h' => c ⟨h'.2.2.2.2.2.1, h'.2.2.2.2.2.2⟩)]
theorem G_ok (L n : Int) : (∃ t y p, G L n = (t, y, p, 0) ∧ R t y p ∧ 7 * p + t = L ∧ num t y p = n) ∨ G L n = (0, 0, 0, 20) := by
  unfold G
  by_cases c : 0 ≤ L + 7 ∧ R ((L + 7) % 7) (n - num ((L + 7) % 7) 0 ((L + 7) / 7 - 1)) ((L + 7) / 7 - 1)
  · rw [if_pos c]
    refine .inl ⟨_, _, _, rfl, c.2, by omega, ?_⟩
    unfold num
    omega
  · rw [if_neg c]
    exact .inr rfl
theorem PitchChain : partitalaw02_PitchChain.Pure := by
  intro a1 a2 a3 b1 b2 c1 c2 ha1 ha2 ha3 hb1 hb2 hc1 hc2
  obtain ⟨s, a, o, e1, r1⟩ := Pitch_eq ha1 ha2 ha3
  obtain ⟨x, f1, x0, x1⟩ := pick_eq (n := 31) hb1 (by omega) (by omega)
  obtain ⟨y, f2, y0, y1⟩ := pick_eq (n := 51) hb2 (by omega) (by omega)
  obtain ⟨z, f3, z0, z1⟩ := pick_eq (n := 31) hc1 (by omega) (by omega)
  obtain ⟨v, f4, v0, v1⟩ := pick_eq (n := 51) hc2 (by omega) (by omega)
  refine ⟨1000, ?_⟩
  unfold partitalaw02_PitchChain.f
  rw [awake_ok, Option.bind_some, e1, Option.bind_some, f1, Option.bind_some, f2, Option.bind_some, f3, Option.bind_some, f4, Option.bind_some]
  rw [wr (x := x - 15) (by omega) (by omega), wr (x := y - 25) (by omega) (by omega), wr (x := z - 15) (by omega) (by omega), wr (x := v - 25) (by omega) (by omega), wr (x := x - 15 + (z - 15)) (by omega) (by omega), wr (x := y - 25 + (v - 25)) (by omega) (by omega)]
  dsimp only
  rw [Up_k, Option.bind_some, upS_G r1 (by omega) (by omega) (by omega) (by omega)]
  rcases G_ok (7 * o + s + (x - 15)) (num s a o + (y - 25)) with ⟨t, b, p, g1, g2, g3, g4⟩ | g1
  · rw [g1]
    dsimp only
    rw [if_pos rfl, Between_k, Option.bind_some, betS_of r1 g2, Up_k, Option.bind_some, Up_k, Option.bind_some, upS_G g2 (by omega) (by omega) (by omega) (by omega), upS_G r1 (by omega) (by omega) (by omega) (by omega)]
    rw [show 7 * p + t + (z - 15) = 7 * o + s + (x - 15 + (z - 15)) by omega, show num t b p + (v - 25) = num s a o + (y - 25 + (v - 25)) by omega, right_eq, decide_eq_true g2]
    dsimp only
    rw [if_pos rfl, if_pos rfl, show 7 * p + t - (7 * o + s) = x - 15 by omega, show num t b p - num s a o = y - 25 by omega]
    simp
  · rw [g1]
    simp

end Go.Proofs.YtnpinngdiipogaaDoor.Pure
