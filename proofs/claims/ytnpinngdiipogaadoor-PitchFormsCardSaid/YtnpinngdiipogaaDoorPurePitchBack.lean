/- For any two raw pitches: Read undoes Text, and unlike pitches have unlike texts; no condition. -/
import Derived.Test.YtnpinngdiipogaaDoorM19
import Derived.Test.YtnpinngdiipogaaDoorPureBase
set_option linter.unusedVariables false
set_option linter.unusedSimpArgs false
namespace Go.Proofs.YtnpinngdiipogaaDoor.Pure
open Go.RowKit Go.Proofs.YtnpinngdiipogaaDoor.M Go.Proofs.YtnpinngdiipogaaDoorW.PrintWords Go.Proofs.YtnpinngdiipogaaDoorW.PrintLast
set_option maxRecDepth 100000

def readsBack (s a o : Int) : Bool := decide (R s a o) == false || (match pitch_Text.f s a o with | some t => t.2 == 0 && decide (2 ≤ t.1.size) && decide (t.1.size ≤ 5) && (pitch_Read.f t.1 == some (s, a, o, 0)) | none => false)
theorem back_0 : ∀ s : Fin 7, ∀ a : Fin 5, readsBack (s.val : Int) (-2 + (a.val : Int)) (-1) = true := by decide +kernel
theorem back_1 : ∀ s : Fin 7, ∀ a : Fin 5, readsBack (s.val : Int) (-2 + (a.val : Int)) 0 = true := by decide +kernel
theorem back_2 : ∀ s : Fin 7, ∀ a : Fin 5, readsBack (s.val : Int) (-2 + (a.val : Int)) 1 = true := by decide +kernel
theorem back_3 : ∀ s : Fin 7, ∀ a : Fin 5, readsBack (s.val : Int) (-2 + (a.val : Int)) 2 = true := by decide +kernel
theorem back_4 : ∀ s : Fin 7, ∀ a : Fin 5, readsBack (s.val : Int) (-2 + (a.val : Int)) 3 = true := by decide +kernel
theorem back_5 : ∀ s : Fin 7, ∀ a : Fin 5, readsBack (s.val : Int) (-2 + (a.val : Int)) 4 = true := by decide +kernel
theorem back_6 : ∀ s : Fin 7, ∀ a : Fin 5, readsBack (s.val : Int) (-2 + (a.val : Int)) 5 = true := by decide +kernel
theorem back_7 : ∀ s : Fin 7, ∀ a : Fin 5, readsBack (s.val : Int) (-2 + (a.val : Int)) 6 = true := by decide +kernel
theorem back_8 : ∀ s : Fin 7, ∀ a : Fin 5, readsBack (s.val : Int) (-2 + (a.val : Int)) 7 = true := by decide +kernel
theorem back_9 : ∀ s : Fin 7, ∀ a : Fin 5, readsBack (s.val : Int) (-2 + (a.val : Int)) 8 = true := by decide +kernel
theorem back_10 : ∀ s : Fin 7, ∀ a : Fin 5, readsBack (s.val : Int) (-2 + (a.val : Int)) 9 = true := by decide +kernel
theorem text_back {s a o : Int} (r : R s a o) : ∃ t, pitch_Text.f s a o = some (t, 0) ∧ 2 ≤ t.size ∧ t.size ≤ 5 ∧ pitch_Read.f t = some (s, a, o, 0) := by
  have hb : readsBack s a o = true := by
    obtain ⟨h0, h1, h2, h3, h4, h5, h6, h7⟩ := r
    obtain ⟨i, hi, rfl⟩ : ∃ i : Nat, i < 7 ∧ s = (i : Int) := ⟨s.toNat, by omega, by omega⟩
    obtain ⟨j, hj, rfl⟩ : ∃ j : Nat, j < 5 ∧ a = -2 + (j : Int) := ⟨(a + 2).toNat, by omega, by omega⟩
    have ho : o = -1 ∨ o = 0 ∨ o = 1 ∨ o = 2 ∨ o = 3 ∨ o = 4 ∨ o = 5 ∨ o = 6 ∨ o = 7 ∨ o = 8 ∨ o = 9 := by omega
    rcases ho with rfl | rfl | rfl | rfl | rfl | rfl | rfl | rfl | rfl | rfl | rfl
    · exact back_0 ⟨i, hi⟩ ⟨j, hj⟩
    · exact back_1 ⟨i, hi⟩ ⟨j, hj⟩
    · exact back_2 ⟨i, hi⟩ ⟨j, hj⟩
    · exact back_3 ⟨i, hi⟩ ⟨j, hj⟩
    · exact back_4 ⟨i, hi⟩ ⟨j, hj⟩
    · exact back_5 ⟨i, hi⟩ ⟨j, hj⟩
    · exact back_6 ⟨i, hi⟩ ⟨j, hj⟩
    · exact back_7 ⟨i, hi⟩ ⟨j, hj⟩
    · exact back_8 ⟨i, hi⟩ ⟨j, hj⟩
    · exact back_9 ⟨i, hi⟩ ⟨j, hj⟩
    · exact back_10 ⟨i, hi⟩ ⟨j, hj⟩
  unfold readsBack at hb
  rw [decide_eq_true r] at hb
  cases ht : pitch_Text.f s a o with
  | none => rw [ht] at hb; simp at hb
  | some t =>
    rw [ht] at hb
    obtain ⟨t, e⟩ := t
    simp only [beq_eq_false_iff_ne, Bool.and_eq_true, beq_iff_eq, decide_eq_true_eq, Bool.or_eq_true] at hb
    have hb := hb.resolve_left (by simp)
    obtain ⟨⟨⟨rfl, h1⟩, h2⟩, h3⟩ := hb
    exact ⟨t, rfl, h1, h2, h3⟩
theorem same_list {a b : ByteArray} (h : a.toList = b.toList) : a = b := by
  rw [ByteArray.toList_eq, ByteArray.toList_eq] at h
  obtain ⟨⟨x⟩⟩ := a
  obtain ⟨⟨y⟩⟩ := b
  obtain rfl : x = y := h
  rfl

theorem PitchBack : partitalaw02_PitchBack.Pure := by
  intro a b c d e f ha hb hc hd he hf
  obtain ⟨s, x, o, e1, r1⟩ := Pitch_eq ha hb hc
  obtain ⟨t, y, p, e2, r2⟩ := Pitch_eq hd he hf
  obtain ⟨u, u1, u2, u3, u4⟩ := text_back r1
  obtain ⟨v, v1, v2, v3, v4⟩ := text_back r2
  refine ⟨1000, ?_⟩
  unfold partitalaw02_PitchBack.f
  rw [awake_ok, e1, e2]
  simp only [Option.bind_some]
  rw [u1, v1]
  simp only [Option.bind_some]
  rw [u4]
  have hsame : ((u.toList == v.toList) == (s == t && (x == y && (o == p)))) = true := by
    rw [beq_iff_eq, Bool.eq_iff_iff]
    simp only [beq_iff_eq, Bool.and_eq_true]
    constructor
    · intro h
      have := same_list h
      subst this
      rw [u4] at v4
      simp only [Option.some.injEq, Prod.mk.injEq] at v4
      exact ⟨v4.1, v4.2.1, v4.2.2.1⟩
    · rintro ⟨rfl, rfl, rfl⟩
      rw [u1] at v1
      simp only [Option.some.injEq, Prod.mk.injEq] at v1
      rw [v1.1]
  simp only [Option.bind_some]
  rw [if_pos trivial, if_pos trivial, if_pos trivial, if_pos trivial, if_pos (by simp), if_pos hsame, if_pos (by omega), decide_eq_true (by omega)]

end Go.Proofs.YtnpinngdiipogaaDoor.Pure
