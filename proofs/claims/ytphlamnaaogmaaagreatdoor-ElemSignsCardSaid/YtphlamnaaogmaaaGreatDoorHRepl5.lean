import Derived.Test.YtphlamnaaogmaaaGreatDoorHRepl4
import Derived.Lib.Bytealg
namespace Go.Proofs.YtphlamnaaogmaaaGreatDoor.M
open Go.RowKit Go.Proofs.Qx
set_option linter.unusedVariables false
set_option linter.unusedSimpArgs false

def escB (c : UInt8) : List UInt8 := match replTable.lookup c with
  | none => [c]
  | some v => v.data.toList
def escL (l : List UInt8) : List UInt8 := l.flatMap escB
def escS (s : ByteArray) : ByteArray := ⟨(escL s.data.toList).toArray⟩
def chg (l : List UInt8) : Bool := l.any fun c => (replTable.lookup c).isSome
def sizeN (d : List (UInt8 × ByteArray)) (l : List UInt8) : Nat := l.length + (d.map fun p => l.count p.1 * (p.2.size - 1)).sum
def anyN (d : List (UInt8 × ByteArray)) (l : List UInt8) : Bool := d.any fun p => l.count p.1 != 0

theorem lookup_cases (c : UInt8) : (c = 34 ∧ replTable.lookup c = some ⟨#[38, 113, 117, 111, 116, 59]⟩) ∨ (c = 62 ∧ replTable.lookup c = some ⟨#[38, 103, 116, 59]⟩) ∨ (c = 60 ∧ replTable.lookup c = some ⟨#[38, 108, 116, 59]⟩) ∨ (c = 38 ∧ replTable.lookup c = some ⟨#[38, 97, 109, 112, 59]⟩) ∨
    (c ≠ 34 ∧ c ≠ 62 ∧ c ≠ 60 ∧ c ≠ 38 ∧ replTable.lookup c = none) := by
  by_cases h1 : c = 34
  · subst h1; exact .inl ⟨rfl, rfl⟩
  by_cases h2 : c = 62
  · subst h2; exact .inr (.inl ⟨rfl, rfl⟩)
  by_cases h3 : c = 60
  · subst h3; exact .inr (.inr (.inl ⟨rfl, rfl⟩))
  by_cases h4 : c = 38
  · subst h4; exact .inr (.inr (.inr (.inl ⟨rfl, rfl⟩)))
  refine .inr (.inr (.inr (.inr ⟨h1, h2, h3, h4, ?_⟩)))
  have e : ∀ a : UInt8, c ≠ a → (c == a) = false := fun a h => by simpa using h
  simp [replTable, List.lookup, e _ h1, e _ h2, e _ h3, e _ h4]

theorem escB_len (c : UInt8) : 1 ≤ (escB c).length ∧ (escB c).length ≤ 6 := by
  rcases lookup_cases c with ⟨_, h⟩ | ⟨_, h⟩ | ⟨_, h⟩ | ⟨_, h⟩ | ⟨_, _, _, _, h⟩ <;> rw [escB, h] <;> simp
theorem escL_len (l : List UInt8) : l.length ≤ (escL l).length ∧ (escL l).length ≤ 6 * l.length := by
  induction l with
  | nil => exact ⟨Nat.le_refl _, Nat.le_refl _⟩
  | cons c l ih =>
    have := escB_len c
    simp only [escL, List.flatMap_cons, List.length_append, List.length_cons] at ih ⊢
    omega
theorem escL_append (a b : List UInt8) : escL (a ++ b) = escL a ++ escL b := by simp [escL]

theorem sizeN_all (l : List UInt8) : sizeN replTable l = (escL l).length := by
  induction l with
  | nil => rfl
  | cons c l ih =>
    have e : (escL (c :: l)).length = (escB c).length + (escL l).length := by simp [escL]
    rw [e, ← ih]
    simp only [sizeN, replTable, List.map_cons, List.map_nil, List.sum_cons, List.sum_nil, List.length_cons, List.count_cons]
    rcases lookup_cases c with ⟨rfl, h⟩ | ⟨rfl, h⟩ | ⟨rfl, h⟩ | ⟨rfl, h⟩ | ⟨h1, h2, h3, h4, h⟩
    · rw [escB, h]; simp [ByteArray.size]; omega
    · rw [escB, h]; simp [ByteArray.size]; omega
    · rw [escB, h]; simp [ByteArray.size]; omega
    · rw [escB, h]; simp [ByteArray.size]; omega
    · rw [escB, h]
      have e : ∀ a : UInt8, c ≠ a → (c == a) = false := fun a h => by simpa using h
      simp [e _ h1, e _ h2, e _ h3, e _ h4, ByteArray.size]; omega

theorem anyN_all (l : List UInt8) : anyN replTable l = chg l := by
  have h1 : anyN replTable l = true ↔ l.any (fun c => (replTable.lookup c).isSome) = true := by
    simp only [anyN, replTable, List.any_cons, List.any_nil, Bool.or_false, Bool.or_eq_true, bne_iff_ne, ne_eq, List.any_eq_true, List.count_eq_zero, Decidable.not_not]
    constructor
    · rintro (h | h | h | h) <;> exact ⟨_, h, rfl⟩
    · rintro ⟨c, hc, h⟩
      rcases lookup_cases c with ⟨rfl, _⟩ | ⟨rfl, _⟩ | ⟨rfl, _⟩ | ⟨rfl, _⟩ | ⟨_, _, _, _, h5⟩
      · exact .inl hc
      · exact .inr (.inl hc)
      · exact .inr (.inr (.inl hc))
      · exact .inr (.inr (.inr hc))
      · rw [replTable] at h5; rw [h5] at h; cases h
  exact Bool.eq_iff_iff.2 h1

theorem escL_same {l : List UInt8} (h : chg l = false) : escL l = l := by
  induction l with
  | nil => rfl
  | cons c l ih =>
    simp only [chg, List.any_cons, Bool.or_eq_false_iff] at h
    have e : escB c = [c] := by
      rw [escB]
      cases hq : replTable.lookup c with
      | none => rfl
      | some v => rw [hq] at h; cases h.1
    simp only [escL, List.flatMap_cons, e] at ih ⊢
    rw [ih h.2]
    rfl
end Go.Proofs.YtphlamnaaogmaaaGreatDoor.M
