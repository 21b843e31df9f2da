/- What Text and Read tell of pitches. -/
import Derived.Test.YtnpinngdiipogaaDoorM5
import Derived.Test.YtnpinngdiipogaaDoorGRead
import Derived.Test.YtnpinngdiipogaaDoorPureBase
set_option linter.unusedVariables false
set_option linter.unusedSimpArgs false
namespace Go.Proofs.YtnpinngdiipogaaDoor.Pure
open Go.RowKit Go.Proofs.YtnpinngdiipogaaDoor.M Go.Proofs.YtnpinngdiipogaaDoorW.PrintWords Go.Proofs.YtnpinngdiipogaaDoorW.PrintLast
set_option maxRecDepth 100000

def readsBack (s a o : Int) : Bool := decide (R s a o) == false || (match pitch_Text.f s a o with | some t => t.2 == 0 && decide (2 ≤ t.1.size) && decide (t.1.size ≤ 5) && (pitch_Read.f t.1 == some (s, a, o, 0)) | none => false)
theorem back_0 : ∀ s : Fin 7, ∀ a : Fin 5, readsBack (s.val : Int) (-2 + (a.val : Int)) (-1) = true := by decide +kernel
theorem back_1 : ∀ s : Fin 7, ∀ a : Fin 5, readsBack (s.val : Int) (-2 + (a.val : Int)) 0 = true := by decide +kernel
theorem back_2 : ∀ s : Fin 7, ∀ a : Fin 5, readsBack (s.val : Int) (-2 + (a.val : Int)) 1 = true := by decide +kernel
theorem back_3 : ∀ s : Fin 7, ∀ a : Fin 5, readsBack (s.val : Int) (-2 + (a.val : Int)) 2 = true := by decide +kernel
theorem back_4 : ∀ s : Fin 7, ∀ a : Fin 5, readsBack (s.val : Int) (-2 + (a.val : Int)) 3 = true := by decide +kernel
theorem back_5 : ∀ s : Fin 7, ∀ a : Fin 5, readsBack (s.val : Int) (-2 + (a.val : Int)) 4 = true := by decide +kernel
theorem back_6 : ∀ s : Fin 7, ∀ a : Fin 5, readsBack (s.val : Int) (-2 + (a.val : Int)) 5 = true := by decide +kernel
theorem back_7 : ∀ s : Fin 7, ∀ a : Fin 5, readsBack (s.val : Int) (-2 + (a.val : Int)) 6 = true := by decide +kernel
theorem back_8 : ∀ s : Fin 7, ∀ a : Fin 5, readsBack (s.val : Int) (-2 + (a.val : Int)) 7 = true := by decide +kernel
theorem back_9 : ∀ s : Fin 7, ∀ a : Fin 5, readsBack (s.val : Int) (-2 + (a.val : Int)) 8 = true := by decide +kernel
theorem back_10 : ∀ s : Fin 7, ∀ a : Fin 5, readsBack (s.val : Int) (-2 + (a.val : Int)) 9 = true := by decide +kernel
theorem text_back {s a o : Int} (r : R s a o) : ∃ t, pitch_Text.f s a o = some (t, 0) ∧ 2 ≤ t.size ∧ t.size ≤ 5 ∧ pitch_Read.f t = some (s, a, o, 0) := by
  have hb : readsBack s a o = true := by
    obtain ⟨h0, h1, h2, h3, h4, h5, h6, h7⟩ := r
    obtain ⟨i, hi, rfl⟩ : ∃ i : Nat, i < 7 ∧ s = (i : Int) := ⟨s.toNat, by omega, by omega⟩
    obtain ⟨j, hj, rfl⟩ : ∃ j : Nat, j < 5 ∧ a = -2 + (j : Int) := ⟨(a + 2).toNat, by omega, by omega⟩
    have ho : o = -1 ∨ o = 0 ∨ o = 1 ∨ o = 2 ∨ o = 3 ∨ o = 4 ∨ o = 5 ∨ o = 6 ∨ o = 7 ∨ o = 8 ∨ o = 9 := by omega
    rcases ho with rfl | rfl | rfl | rfl | rfl | rfl | rfl | rfl | rfl | rfl | rfl
    · exact back_0 ⟨i, hi⟩ ⟨j, hj⟩
    · exact back_1 ⟨i, hi⟩ ⟨j, hj⟩
    · exact back_2 ⟨i, hi⟩ ⟨j, hj⟩
    · exact back_3 ⟨i, hi⟩ ⟨j, hj⟩
    · exact back_4 ⟨i, hi⟩ ⟨j, hj⟩
    · exact back_5 ⟨i, hi⟩ ⟨j, hj⟩
    · exact back_6 ⟨i, hi⟩ ⟨j, hj⟩
    · exact back_7 ⟨i, hi⟩ ⟨j, hj⟩
    · exact back_8 ⟨i, hi⟩ ⟨j, hj⟩
    · exact back_9 ⟨i, hi⟩ ⟨j, hj⟩
    · exact back_10 ⟨i, hi⟩ ⟨j, hj⟩
  unfold readsBack at hb
  rw [decide_eq_true r] at hb
  cases ht : pitch_Text.f s a o with
  | none => rw [ht] at hb; simp at hb
  | some t =>
    rw [ht] at hb
    obtain ⟨t, e⟩ := t
    simp only [beq_eq_false_iff_ne, Bool.and_eq_true, beq_iff_eq, decide_eq_true_eq, Bool.or_eq_true] at hb
    have hb := hb.resolve_left (by simp)
    obtain ⟨⟨⟨rfl, h1⟩, h2⟩, h3⟩ := hb
    exact ⟨t, rfl, h1, h2, h3⟩
theorem read_tells (x : ByteArray) (hx : x.size ≤ 9223372036854775807) : ∃ s a o e, pitch_Read.f x = some (s, a, o, e) ∧ ((e = 0 ∧ R s a o ∧ pitch_Text.f s a o = some (x, 0)) ∨ (e = 21 ∧ s = 0 ∧ a = 0 ∧ o = 0)) := by
  unfold pitch_Read.f
  by_cases h0 : x.size = 0
  · rw [if_pos h0]
    exact ⟨_, _, _, _, rfl, .inr ⟨rfl, rfl, rfl, rfl⟩⟩
  · rw [if_neg h0, if_pos hx]
    by_cases hr : R (stepUpto (x.get! 0).toNat 7) (readAlt x) (readOct x)
    · obtain ⟨t, h1, h2, h3, h4⟩ := text_back hr
      rw [h1]
      simp only [Option.bind_some]
      by_cases he : t = x
      · subst he
        rw [if_pos ⟨trivial, rfl⟩]
        exact ⟨_, _, _, _, rfl, .inl ⟨rfl, hr, h1⟩⟩
      · rw [if_neg (fun h => he h.2)]
        exact ⟨_, _, _, _, rfl, .inr ⟨rfl, rfl, rfl, rfl⟩⟩
    · have ht : pitch_Text.f (stepUpto (x.get! 0).toNat 7) (readAlt x) (readOct x) = some (⟨#[]⟩, 20) := by
        unfold pitch_Text.f
        rw [right_eq, decide_eq_false hr]
        rfl
      rw [ht]
      simp only [Option.bind_some]
      rw [if_neg (fun h => absurd h.1 (by decide))]
      exact ⟨_, _, _, _, rfl, .inr ⟨rfl, rfl, rfl, rfl⟩⟩

end Go.Proofs.YtnpinngdiipogaaDoor.Pure
