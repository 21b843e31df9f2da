/- A move, and the one back, leave the key that there was; a move of two is the moves of both, if all of them are; no condition. -/
import Derived.Test.YtaanbojalolhnaaM19
import Derived.Test.YtaanbojalolhnaaPureBase
set_option linter.unusedVariables false
set_option linter.unusedSimpArgs false
namespace Go.Proofs.Ytaanbojalolhnaa.Pure
open Go.RowKit Go.Proofs.Ytaanbojalolhnaa.M Go.Proofs.YtaanbojalolhnaaW.PrintWords Go.Proofs.YtaanbojalolhnaaW.PrintLast

/-- a move in closed form -/
def moved (a : Int) (m : Bool) (s h : Int) : Int × Bool × Int :=
  if -7 ≤ a ∧ a ≤ 7 then (if -70 ≤ s ∧ s ≤ 70 ∧ -120 ≤ h ∧ h ≤ 120 then (if -7 ≤ a + 7 * h - 12 * s ∧ a + 7 * h - 12 * s ≤ 7 then (a + 7 * h - 12 * s, m, 0) else (0, false, 30)) else (0, false, 2)) else (0, false, 30)
theorem right_form (a : Int) (m : Bool) : key_Right.f a m = some (decide (-7 ≤ a ∧ a ≤ 7)) := by
  unfold key_Right.f
  by_cases h : a ≥ -7
  · rw [if_pos h]; congr 1; apply decide_eq_decide.2; omega
  · rw [if_neg h]; congr 1; symm; apply decide_eq_false; omega
theorem move_form (k : Nat) (a : Int) (m : Bool) (s h : Int) : key_Move.f (k + 1) a m s h = some (moved a m s h) := by
  unfold key_Move.f moved
  rw [right_form]
  simp only [Option.bind_some, decide_eq_true_eq, key_Move.j0]
  by_cases hr : -7 ≤ a ∧ a ≤ 7
  · rw [if_pos hr, if_pos hr]
    by_cases hb : -70 ≤ s ∧ s ≤ 70 ∧ -120 ≤ h ∧ h ≤ 120
    · rw [if_pos hb, if_neg (by omega), if_neg (by omega), if_neg (by omega)]
      have e : wrap64 ((wrap64 (a + (wrap64 (7 * h)))) - (wrap64 (12 * s))) = a + 7 * h - 12 * s := by unfold wrap64; omega
      rw [if_neg (by omega), e, right_form]
      simp only [Option.bind_some, decide_eq_true_eq]
      by_cases hm : -7 ≤ a + 7 * h - 12 * s ∧ a + 7 * h - 12 * s ≤ 7
      · rw [if_pos hm, if_pos hm]
      · rw [if_neg hm, if_neg hm]
    · rw [if_neg hb]
      by_cases h1 : s < -70
      · rw [if_pos h1]; simp
      · rw [if_neg h1]
        by_cases h2 : s > 70
        · rw [if_pos h2]; simp
        · rw [if_neg h2]
          by_cases h3 : h < -120
          · rw [if_pos h3]; simp
          · rw [if_neg h3, if_pos (by omega)]
  · rw [if_neg hr, if_neg hr]
theorem moved_ok {a : Int} {m : Bool} {s h : Int} (e : (moved a m s h).2.2 = 0) : (-7 ≤ a ∧ a ≤ 7) ∧ (-70 ≤ s ∧ s ≤ 70 ∧ -120 ≤ h ∧ h ≤ 120) ∧ (-7 ≤ a + 7 * h - 12 * s ∧ a + 7 * h - 12 * s ≤ 7) ∧ moved a m s h = (a + 7 * h - 12 * s, m, 0) := by
  unfold moved at e ⊢
  split at e
  · split at e
    · split at e
      · exact ⟨‹_›, ‹_›, ‹_›, by rw [if_pos ‹_›, if_pos ‹_›, if_pos ‹_›]⟩
      · cases e
    · cases e
  · cases e
theorem moved_no {a : Int} {m : Bool} {s h : Int} (e : ¬ (moved a m s h).2.2 = 0) : (moved a m s h).1 = 0 ∧ (moved a m s h).2.1 = false := by
  unfold moved at e ⊢
  split
  · split
    · split
      · rw [if_pos ‹_›, if_pos ‹_›, if_pos ‹_›] at e; exact absurd rfl e
      · exact ⟨rfl, rfl⟩
    · exact ⟨rfl, rfl⟩
  · exact ⟨rfl, rfl⟩

theorem KeyMoveBack : partitalaw03_KeyMoveBack.Pure := by
  intro a m s h s2 h2 _ _ _ _ _
  refine ⟨100, ?_⟩
  unfold partitalaw03_KeyMoveBack.f
  rw [awake_ok]
  simp only [move_form 99, Option.bind_some]
  by_cases e : (moved a m s h).2.2 = 0
  · obtain ⟨hr, hb, hm, he⟩ := moved_ok e
    rw [he]
    simp only [if_true]
    have eb : moved (a + 7 * h - 12 * s) m (wrap64 (-s)) (wrap64 (-h)) = (a, m, 0) := by
      have e1 : wrap64 (-s) = -s := by unfold wrap64; omega
      have e2 : wrap64 (-h) = -h := by unfold wrap64; omega
      rw [e1, e2]
      unfold moved
      rw [if_pos hm, if_pos (by omega), if_pos (by omega)]
      congr 1; omega
    rw [eb]
    by_cases e2 : (moved (a + 7 * h - 12 * s) m s2 h2).2.2 = 0
    · obtain ⟨hr2, hb2, hm2, he2⟩ := moved_ok e2
      rw [he2]
      simp only [if_true, beq_self_eq_true, Bool.and_self]
      by_cases e3 : (moved a m (wrap64 (s + s2)) (wrap64 (h + h2))).2.2 = 0
      · obtain ⟨hr3, hb3, hm3, he3⟩ := moved_ok e3
        have e1 : wrap64 (s + s2) = s + s2 := by unfold wrap64; omega
        have e2 : wrap64 (h + h2) = h + h2 := by unfold wrap64; omega
        rw [he3, e1, e2]
        have e4 : a + 7 * h - 12 * s + 7 * h2 - 12 * s2 = a + 7 * (h + h2) - 12 * (s + s2) := by omega
        simp [e4]
      · rw [if_neg e3]
    · rw [if_neg e2]; simp
  · obtain ⟨h1, h2⟩ := moved_no e
    rw [if_neg e, h1, h2]; simp

end Go.Proofs.Ytaanbojalolhnaa.Pure
