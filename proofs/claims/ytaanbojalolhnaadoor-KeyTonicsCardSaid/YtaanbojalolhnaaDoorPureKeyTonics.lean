/- For every key and interval, the tonic of the key moved is the tonic moved; no condition. -/
import Derived.Test.YtaanbojalolhnaaDoorM12
set_option linter.unusedVariables false
set_option linter.unusedSimpArgs false
namespace Go.Proofs.YtaanbojalolhnaaDoor.Pure
open Go.RowKit Go.Proofs.YtaanbojalolhnaaDoor.M Go.Proofs.YtaanbojalolhnaaDoorW.PrintWords Go.Proofs.YtaanbojalolhnaaDoorW.PrintLast
set_option maxRecDepth 100000

theorem awake_ok : partitalaw03_awake.f 100 = some true := by decide +kernel
def tonHalves (a s : Int) (j : Nat) : Int := (12 * s - a + 7) / 7 - (j : Int)
theorem ton0 : ∀ m : Bool, ∀ s : Fin 29, ∀ j : Fin 3, partitalaw03_KeyTonics.f 100 (-7) m (-14 + (s.val : Int)) (tonHalves (-7) (-14 + (s.val : Int)) j.val) = some true := by decide +kernel
theorem ton1 : ∀ m : Bool, ∀ s : Fin 29, ∀ j : Fin 3, partitalaw03_KeyTonics.f 100 (-6) m (-14 + (s.val : Int)) (tonHalves (-6) (-14 + (s.val : Int)) j.val) = some true := by decide +kernel
theorem ton2 : ∀ m : Bool, ∀ s : Fin 29, ∀ j : Fin 3, partitalaw03_KeyTonics.f 100 (-5) m (-14 + (s.val : Int)) (tonHalves (-5) (-14 + (s.val : Int)) j.val) = some true := by decide +kernel
theorem ton3 : ∀ m : Bool, ∀ s : Fin 29, ∀ j : Fin 3, partitalaw03_KeyTonics.f 100 (-4) m (-14 + (s.val : Int)) (tonHalves (-4) (-14 + (s.val : Int)) j.val) = some true := by decide +kernel
theorem ton4 : ∀ m : Bool, ∀ s : Fin 29, ∀ j : Fin 3, partitalaw03_KeyTonics.f 100 (-3) m (-14 + (s.val : Int)) (tonHalves (-3) (-14 + (s.val : Int)) j.val) = some true := by decide +kernel
theorem ton5 : ∀ m : Bool, ∀ s : Fin 29, ∀ j : Fin 3, partitalaw03_KeyTonics.f 100 (-2) m (-14 + (s.val : Int)) (tonHalves (-2) (-14 + (s.val : Int)) j.val) = some true := by decide +kernel
theorem ton6 : ∀ m : Bool, ∀ s : Fin 29, ∀ j : Fin 3, partitalaw03_KeyTonics.f 100 (-1) m (-14 + (s.val : Int)) (tonHalves (-1) (-14 + (s.val : Int)) j.val) = some true := by decide +kernel
theorem ton7 : ∀ m : Bool, ∀ s : Fin 29, ∀ j : Fin 3, partitalaw03_KeyTonics.f 100 (0) m (-14 + (s.val : Int)) (tonHalves (0) (-14 + (s.val : Int)) j.val) = some true := by decide +kernel
theorem ton8 : ∀ m : Bool, ∀ s : Fin 29, ∀ j : Fin 3, partitalaw03_KeyTonics.f 100 (1) m (-14 + (s.val : Int)) (tonHalves (1) (-14 + (s.val : Int)) j.val) = some true := by decide +kernel
theorem ton9 : ∀ m : Bool, ∀ s : Fin 29, ∀ j : Fin 3, partitalaw03_KeyTonics.f 100 (2) m (-14 + (s.val : Int)) (tonHalves (2) (-14 + (s.val : Int)) j.val) = some true := by decide +kernel
theorem ton10 : ∀ m : Bool, ∀ s : Fin 29, ∀ j : Fin 3, partitalaw03_KeyTonics.f 100 (3) m (-14 + (s.val : Int)) (tonHalves (3) (-14 + (s.val : Int)) j.val) = some true := by decide +kernel
theorem ton11 : ∀ m : Bool, ∀ s : Fin 29, ∀ j : Fin 3, partitalaw03_KeyTonics.f 100 (4) m (-14 + (s.val : Int)) (tonHalves (4) (-14 + (s.val : Int)) j.val) = some true := by decide +kernel
theorem ton12 : ∀ m : Bool, ∀ s : Fin 29, ∀ j : Fin 3, partitalaw03_KeyTonics.f 100 (5) m (-14 + (s.val : Int)) (tonHalves (5) (-14 + (s.val : Int)) j.val) = some true := by decide +kernel
theorem ton13 : ∀ m : Bool, ∀ s : Fin 29, ∀ j : Fin 3, partitalaw03_KeyTonics.f 100 (6) m (-14 + (s.val : Int)) (tonHalves (6) (-14 + (s.val : Int)) j.val) = some true := by decide +kernel
theorem ton14 : ∀ m : Bool, ∀ s : Fin 29, ∀ j : Fin 3, partitalaw03_KeyTonics.f 100 (7) m (-14 + (s.val : Int)) (tonHalves (7) (-14 + (s.val : Int)) j.val) = some true := by decide +kernel
theorem ton_in (a : Int) (m : Bool) (s : Int) (j : Fin 3) (ha : -7 ≤ a ∧ a ≤ 7) (hs : -14 ≤ s ∧ s ≤ 14) : partitalaw03_KeyTonics.f 100 a m s (tonHalves a s j.val) = some true := by
  obtain ⟨x, rfl⟩ : ∃ x : Fin 29, s = -14 + (x.val : Int) := ⟨⟨(s + 14).toNat, by omega⟩, by simp only; omega⟩
  rcases (show a = -7 ∨ a = -6 ∨ a = -5 ∨ a = -4 ∨ a = -3 ∨ a = -2 ∨ a = -1 ∨ a = 0 ∨ a = 1 ∨ a = 2 ∨ a = 3 ∨ a = 4 ∨ a = 5 ∨ a = 6 ∨ a = 7 by omega) with rfl | rfl | rfl | rfl | rfl | rfl | rfl | rfl | rfl | rfl | rfl | rfl | rfl | rfl | rfl
  · exact ton0 m x j
  · exact ton1 m x j
  · exact ton2 m x j
  · exact ton3 m x j
  · exact ton4 m x j
  · exact ton5 m x j
  · exact ton6 m x j
  · exact ton7 m x j
  · exact ton8 m x j
  · exact ton9 m x j
  · exact ton10 m x j
  · exact ton11 m x j
  · exact ton12 m x j
  · exact ton13 m x j
  · exact ton14 m x j
theorem right_no {k : Int} {m : Bool} (h : ¬ (-7 ≤ k ∧ k ≤ 7)) : key_Right.f k m = some false := by
  unfold key_Right.f
  by_cases h1 : k ≥ -7
  · rw [if_pos h1, decide_eq_false (by omega)]
  · rw [if_neg h1]
theorem right_yes {k : Int} {m : Bool} (h : -7 ≤ k ∧ k ≤ 7) : key_Right.f k m = some true := by
  unfold key_Right.f
  rw [if_pos (by omega), decide_eq_true (by omega)]
theorem ton_up (k : Nat) (x : Bool) (a1 : Int) (m1 : Bool) (s h a2 : Int) (m2 : Bool) : partitalaw03_KeyTonics.j0 (k + 1) x true a1 m1 s h a2 m2 = some x := by simp [partitalaw03_KeyTonics.j0]
theorem move_out {a : Int} {m : Bool} {s h : Int} (ha : -7 ≤ a ∧ a ≤ 7) (h1 : s < -70 ∨ 70 < s ∨ h < -120 ∨ 120 < h) : key_Move.f 100 a m s h = some (0, false, 2) := by
  unfold key_Move.f
  rw [right_yes ha]
  simp only [Option.bind_some, if_true]
  split
  · simp [key_Move.j0]
  · split
    · simp [key_Move.j0]
    · split
      · simp [key_Move.j0]
      · rw [decide_eq_true (by omega)]; simp [key_Move.j0]
theorem move_in {a : Int} {m : Bool} {s h : Int} (ha : -7 ≤ a ∧ a ≤ 7) (h1 : ¬ (s < -70 ∨ 70 < s ∨ h < -120 ∨ 120 < h)) : key_Move.f 100 a m s h = some (if -7 ≤ a + 7 * h - 12 * s ∧ a + 7 * h - 12 * s ≤ 7 then (a + 7 * h - 12 * s, m, 0) else (0, false, 30)) := by
  unfold key_Move.f
  rw [right_yes ha]
  simp only [Option.bind_some, if_true]
  rw [if_neg (by omega), if_neg (by omega), if_neg (by omega), decide_eq_false (by omega)]
  have e : wrap64 ((wrap64 (a + (wrap64 (7 * h)))) - (wrap64 (12 * s))) = a + 7 * h - 12 * s := by unfold wrap64; omega
  simp only [key_Move.j0, e]
  by_cases hr : -7 ≤ a + 7 * h - 12 * s ∧ a + 7 * h - 12 * s ≤ 7
  · rw [right_yes hr, if_pos hr]; simp
  · rw [right_no hr, if_neg hr]; simp

theorem KeyTonics : partitalaw03_KeyTonics.Pure := by
  intro a m s h _ _ _
  refine ⟨100, ?_⟩
  by_cases ha : -7 ≤ a ∧ a ≤ 7
  · by_cases h1 : s < -70 ∨ 70 < s ∨ h < -120 ∨ 120 < h
    · unfold partitalaw03_KeyTonics.f
      rw [awake_ok, move_out ha h1]
      simp [ton_up]
    · by_cases hr : -7 ≤ a + 7 * h - 12 * s ∧ a + 7 * h - 12 * s ≤ 7
      · by_cases hs : -14 ≤ s ∧ s ≤ 14
        · have hj : ∃ j : Fin 3, h = tonHalves a s j.val := by
            unfold tonHalves
            exact ⟨⟨((12 * s - a + 7) / 7 - h).toNat, by omega⟩, by simp only; omega⟩
          obtain ⟨j, rfl⟩ := hj
          exact ton_in a m s j ha hs
        · unfold partitalaw03_KeyTonics.f
          rw [awake_ok, move_in ha h1, if_pos hr]
          simp only [Option.bind_some, if_true]
          by_cases h2 : s < -14
          · rw [if_pos h2]; exact ton_up 99 ..
          · rw [if_neg h2, decide_eq_true (by omega)]; exact ton_up 99 ..
      · unfold partitalaw03_KeyTonics.f
        rw [awake_ok, move_in ha h1, if_neg hr]
        simp [ton_up]
  · unfold partitalaw03_KeyTonics.f key_Move.f
    rw [awake_ok, right_no ha]
    simp [ton_up]

end Go.Proofs.YtaanbojalolhnaaDoor.Pure
