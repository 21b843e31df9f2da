/- For every key and two numbers below 128: what is spelled sounds as the number, and two spellings are one exactly where the numbers are; no condition. -/
import Derived.Test.YtaanbojalolhnabDoorM10
set_option linter.unusedVariables false
set_option linter.unusedSimpArgs false
namespace Go.Proofs.YtaanbojalolhnabDoor.Pure
open Go.RowKit Go.Proofs.YtaanbojalolhnabDoor.M Go.Proofs.YtaanbojalolhnabDoorW.PrintWords Go.Proofs.YtaanbojalolhnabDoorW.PrintLast
set_option maxRecDepth 100000

theorem awake_ok : partitalaw03_awake.f 100 = some true := by decide +kernel
def sounds (x : Option (Int × Int × Int × Int)) (n : Int) : Bool := match x with | some r => r.2.2.2 != 0 || pitch_Number.f r.1 r.2.1 r.2.2.1 == some (n, 0) | none => false
theorem sp0_0 : ∀ n : Fin 32, sounds (key_Spell.f (-7) false (0 + (n.val : Int))) (0 + (n.val : Int)) = true := by decide +kernel
theorem sp0_1 : ∀ n : Fin 32, sounds (key_Spell.f (-7) false (32 + (n.val : Int))) (32 + (n.val : Int)) = true := by decide +kernel
theorem sp0_2 : ∀ n : Fin 32, sounds (key_Spell.f (-7) false (64 + (n.val : Int))) (64 + (n.val : Int)) = true := by decide +kernel
theorem sp0_3 : ∀ n : Fin 32, sounds (key_Spell.f (-7) false (96 + (n.val : Int))) (96 + (n.val : Int)) = true := by decide +kernel
theorem sp1_0 : ∀ n : Fin 32, sounds (key_Spell.f (-6) false (0 + (n.val : Int))) (0 + (n.val : Int)) = true := by decide +kernel
theorem sp1_1 : ∀ n : Fin 32, sounds (key_Spell.f (-6) false (32 + (n.val : Int))) (32 + (n.val : Int)) = true := by decide +kernel
theorem sp1_2 : ∀ n : Fin 32, sounds (key_Spell.f (-6) false (64 + (n.val : Int))) (64 + (n.val : Int)) = true := by decide +kernel
theorem sp1_3 : ∀ n : Fin 32, sounds (key_Spell.f (-6) false (96 + (n.val : Int))) (96 + (n.val : Int)) = true := by decide +kernel
theorem sp2_0 : ∀ n : Fin 32, sounds (key_Spell.f (-5) false (0 + (n.val : Int))) (0 + (n.val : Int)) = true := by decide +kernel
theorem sp2_1 : ∀ n : Fin 32, sounds (key_Spell.f (-5) false (32 + (n.val : Int))) (32 + (n.val : Int)) = true := by decide +kernel
theorem sp2_2 : ∀ n : Fin 32, sounds (key_Spell.f (-5) false (64 + (n.val : Int))) (64 + (n.val : Int)) = true := by decide +kernel
theorem sp2_3 : ∀ n : Fin 32, sounds (key_Spell.f (-5) false (96 + (n.val : Int))) (96 + (n.val : Int)) = true := by decide +kernel
theorem sp3_0 : ∀ n : Fin 32, sounds (key_Spell.f (-4) false (0 + (n.val : Int))) (0 + (n.val : Int)) = true := by decide +kernel
theorem sp3_1 : ∀ n : Fin 32, sounds (key_Spell.f (-4) false (32 + (n.val : Int))) (32 + (n.val : Int)) = true := by decide +kernel
theorem sp3_2 : ∀ n : Fin 32, sounds (key_Spell.f (-4) false (64 + (n.val : Int))) (64 + (n.val : Int)) = true := by decide +kernel
theorem sp3_3 : ∀ n : Fin 32, sounds (key_Spell.f (-4) false (96 + (n.val : Int))) (96 + (n.val : Int)) = true := by decide +kernel
theorem sp4_0 : ∀ n : Fin 32, sounds (key_Spell.f (-3) false (0 + (n.val : Int))) (0 + (n.val : Int)) = true := by decide +kernel
theorem sp4_1 : ∀ n : Fin 32, sounds (key_Spell.f (-3) false (32 + (n.val : Int))) (32 + (n.val : Int)) = true := by decide +kernel
theorem sp4_2 : ∀ n : Fin 32, sounds (key_Spell.f (-3) false (64 + (n.val : Int))) (64 + (n.val : Int)) = true := by decide +kernel
theorem sp4_3 : ∀ n : Fin 32, sounds (key_Spell.f (-3) false (96 + (n.val : Int))) (96 + (n.val : Int)) = true := by decide +kernel
theorem sp5_0 : ∀ n : Fin 32, sounds (key_Spell.f (-2) false (0 + (n.val : Int))) (0 + (n.val : Int)) = true := by decide +kernel
theorem sp5_1 : ∀ n : Fin 32, sounds (key_Spell.f (-2) false (32 + (n.val : Int))) (32 + (n.val : Int)) = true := by decide +kernel
theorem sp5_2 : ∀ n : Fin 32, sounds (key_Spell.f (-2) false (64 + (n.val : Int))) (64 + (n.val : Int)) = true := by decide +kernel
theorem sp5_3 : ∀ n : Fin 32, sounds (key_Spell.f (-2) false (96 + (n.val : Int))) (96 + (n.val : Int)) = true := by decide +kernel
theorem sp6_0 : ∀ n : Fin 32, sounds (key_Spell.f (-1) false (0 + (n.val : Int))) (0 + (n.val : Int)) = true := by decide +kernel
theorem sp6_1 : ∀ n : Fin 32, sounds (key_Spell.f (-1) false (32 + (n.val : Int))) (32 + (n.val : Int)) = true := by decide +kernel
theorem sp6_2 : ∀ n : Fin 32, sounds (key_Spell.f (-1) false (64 + (n.val : Int))) (64 + (n.val : Int)) = true := by decide +kernel
theorem sp6_3 : ∀ n : Fin 32, sounds (key_Spell.f (-1) false (96 + (n.val : Int))) (96 + (n.val : Int)) = true := by decide +kernel
theorem sp7_0 : ∀ n : Fin 32, sounds (key_Spell.f (0) false (0 + (n.val : Int))) (0 + (n.val : Int)) = true := by decide +kernel
theorem sp7_1 : ∀ n : Fin 32, sounds (key_Spell.f (0) false (32 + (n.val : Int))) (32 + (n.val : Int)) = true := by decide +kernel
theorem sp7_2 : ∀ n : Fin 32, sounds (key_Spell.f (0) false (64 + (n.val : Int))) (64 + (n.val : Int)) = true := by decide +kernel
theorem sp7_3 : ∀ n : Fin 32, sounds (key_Spell.f (0) false (96 + (n.val : Int))) (96 + (n.val : Int)) = true := by decide +kernel
theorem sp8_0 : ∀ n : Fin 32, sounds (key_Spell.f (1) false (0 + (n.val : Int))) (0 + (n.val : Int)) = true := by decide +kernel
theorem sp8_1 : ∀ n : Fin 32, sounds (key_Spell.f (1) false (32 + (n.val : Int))) (32 + (n.val : Int)) = true := by decide +kernel
theorem sp8_2 : ∀ n : Fin 32, sounds (key_Spell.f (1) false (64 + (n.val : Int))) (64 + (n.val : Int)) = true := by decide +kernel
theorem sp8_3 : ∀ n : Fin 32, sounds (key_Spell.f (1) false (96 + (n.val : Int))) (96 + (n.val : Int)) = true := by decide +kernel
theorem sp9_0 : ∀ n : Fin 32, sounds (key_Spell.f (2) false (0 + (n.val : Int))) (0 + (n.val : Int)) = true := by decide +kernel
theorem sp9_1 : ∀ n : Fin 32, sounds (key_Spell.f (2) false (32 + (n.val : Int))) (32 + (n.val : Int)) = true := by decide +kernel
theorem sp9_2 : ∀ n : Fin 32, sounds (key_Spell.f (2) false (64 + (n.val : Int))) (64 + (n.val : Int)) = true := by decide +kernel
theorem sp9_3 : ∀ n : Fin 32, sounds (key_Spell.f (2) false (96 + (n.val : Int))) (96 + (n.val : Int)) = true := by decide +kernel
theorem sp10_0 : ∀ n : Fin 32, sounds (key_Spell.f (3) false (0 + (n.val : Int))) (0 + (n.val : Int)) = true := by decide +kernel
theorem sp10_1 : ∀ n : Fin 32, sounds (key_Spell.f (3) false (32 + (n.val : Int))) (32 + (n.val : Int)) = true := by decide +kernel
theorem sp10_2 : ∀ n : Fin 32, sounds (key_Spell.f (3) false (64 + (n.val : Int))) (64 + (n.val : Int)) = true := by decide +kernel
theorem sp10_3 : ∀ n : Fin 32, sounds (key_Spell.f (3) false (96 + (n.val : Int))) (96 + (n.val : Int)) = true := by decide +kernel
theorem sp11_0 : ∀ n : Fin 32, sounds (key_Spell.f (4) false (0 + (n.val : Int))) (0 + (n.val : Int)) = true := by decide +kernel
theorem sp11_1 : ∀ n : Fin 32, sounds (key_Spell.f (4) false (32 + (n.val : Int))) (32 + (n.val : Int)) = true := by decide +kernel
theorem sp11_2 : ∀ n : Fin 32, sounds (key_Spell.f (4) false (64 + (n.val : Int))) (64 + (n.val : Int)) = true := by decide +kernel
theorem sp11_3 : ∀ n : Fin 32, sounds (key_Spell.f (4) false (96 + (n.val : Int))) (96 + (n.val : Int)) = true := by decide +kernel
theorem sp12_0 : ∀ n : Fin 32, sounds (key_Spell.f (5) false (0 + (n.val : Int))) (0 + (n.val : Int)) = true := by decide +kernel
theorem sp12_1 : ∀ n : Fin 32, sounds (key_Spell.f (5) false (32 + (n.val : Int))) (32 + (n.val : Int)) = true := by decide +kernel
theorem sp12_2 : ∀ n : Fin 32, sounds (key_Spell.f (5) false (64 + (n.val : Int))) (64 + (n.val : Int)) = true := by decide +kernel
theorem sp12_3 : ∀ n : Fin 32, sounds (key_Spell.f (5) false (96 + (n.val : Int))) (96 + (n.val : Int)) = true := by decide +kernel
theorem sp13_0 : ∀ n : Fin 32, sounds (key_Spell.f (6) false (0 + (n.val : Int))) (0 + (n.val : Int)) = true := by decide +kernel
theorem sp13_1 : ∀ n : Fin 32, sounds (key_Spell.f (6) false (32 + (n.val : Int))) (32 + (n.val : Int)) = true := by decide +kernel
theorem sp13_2 : ∀ n : Fin 32, sounds (key_Spell.f (6) false (64 + (n.val : Int))) (64 + (n.val : Int)) = true := by decide +kernel
theorem sp13_3 : ∀ n : Fin 32, sounds (key_Spell.f (6) false (96 + (n.val : Int))) (96 + (n.val : Int)) = true := by decide +kernel
theorem sp14_0 : ∀ n : Fin 32, sounds (key_Spell.f (7) false (0 + (n.val : Int))) (0 + (n.val : Int)) = true := by decide +kernel
theorem sp14_1 : ∀ n : Fin 32, sounds (key_Spell.f (7) false (32 + (n.val : Int))) (32 + (n.val : Int)) = true := by decide +kernel
theorem sp14_2 : ∀ n : Fin 32, sounds (key_Spell.f (7) false (64 + (n.val : Int))) (64 + (n.val : Int)) = true := by decide +kernel
theorem sp14_3 : ∀ n : Fin 32, sounds (key_Spell.f (7) false (96 + (n.val : Int))) (96 + (n.val : Int)) = true := by decide +kernel
theorem sounds_at (i : Int) (n : Int) (h1 : -7 ≤ i ∧ i ≤ 7) (h2 : 0 ≤ n ∧ n ≤ 127) : sounds (key_Spell.f i false n) n = true := by
  have hn : (∃ x : Fin 32, n = 0 + (x.val : Int)) ∨ (∃ x : Fin 32, n = 32 + (x.val : Int)) ∨ (∃ x : Fin 32, n = 64 + (x.val : Int)) ∨ (∃ x : Fin 32, n = 96 + (x.val : Int)) := by
    rcases (show n < 32 ∨ (32 ≤ n ∧ n < 64) ∨ (64 ≤ n ∧ n < 96) ∨ 96 ≤ n by omega) with h | h | h | h
    · exact .inl ⟨⟨n.toNat, by omega⟩, by simp only; omega⟩
    · exact .inr (.inl ⟨⟨(n - 32).toNat, by omega⟩, by simp only; omega⟩)
    · exact .inr (.inr (.inl ⟨⟨(n - 64).toNat, by omega⟩, by simp only; omega⟩))
    · exact .inr (.inr (.inr ⟨⟨(n - 96).toNat, by omega⟩, by simp only; omega⟩))
  rcases (show i = -7 ∨ i = -6 ∨ i = -5 ∨ i = -4 ∨ i = -3 ∨ i = -2 ∨ i = -1 ∨ i = 0 ∨ i = 1 ∨ i = 2 ∨ i = 3 ∨ i = 4 ∨ i = 5 ∨ i = 6 ∨ i = 7 by omega) with rfl | rfl | rfl | rfl | rfl | rfl | rfl | rfl | rfl | rfl | rfl | rfl | rfl | rfl | rfl <;> rcases hn with ⟨x, rfl⟩ | ⟨x, rfl⟩ | ⟨x, rfl⟩ | ⟨x, rfl⟩
  · exact sp0_0 x
  · exact sp0_1 x
  · exact sp0_2 x
  · exact sp0_3 x
  · exact sp1_0 x
  · exact sp1_1 x
  · exact sp1_2 x
  · exact sp1_3 x
  · exact sp2_0 x
  · exact sp2_1 x
  · exact sp2_2 x
  · exact sp2_3 x
  · exact sp3_0 x
  · exact sp3_1 x
  · exact sp3_2 x
  · exact sp3_3 x
  · exact sp4_0 x
  · exact sp4_1 x
  · exact sp4_2 x
  · exact sp4_3 x
  · exact sp5_0 x
  · exact sp5_1 x
  · exact sp5_2 x
  · exact sp5_3 x
  · exact sp6_0 x
  · exact sp6_1 x
  · exact sp6_2 x
  · exact sp6_3 x
  · exact sp7_0 x
  · exact sp7_1 x
  · exact sp7_2 x
  · exact sp7_3 x
  · exact sp8_0 x
  · exact sp8_1 x
  · exact sp8_2 x
  · exact sp8_3 x
  · exact sp9_0 x
  · exact sp9_1 x
  · exact sp9_2 x
  · exact sp9_3 x
  · exact sp10_0 x
  · exact sp10_1 x
  · exact sp10_2 x
  · exact sp10_3 x
  · exact sp11_0 x
  · exact sp11_1 x
  · exact sp11_2 x
  · exact sp11_3 x
  · exact sp12_0 x
  · exact sp12_1 x
  · exact sp12_2 x
  · exact sp12_3 x
  · exact sp13_0 x
  · exact sp13_1 x
  · exact sp13_2 x
  · exact sp13_3 x
  · exact sp14_0 x
  · exact sp14_1 x
  · exact sp14_2 x
  · exact sp14_3 x
theorem spell_some (a : Int) (m : Bool) (n : Int) : ∃ x, key_Spell.f a m n = some x := by
  unfold key_Spell.f
  repeat' (first | exact ⟨_, rfl⟩ | split)
theorem spell_sounds (a : Int) (m : Bool) (n : Int) (hn : 0 ≤ n ∧ n ≤ 127) (x : Int × Int × Int × Int) (hx : key_Spell.f a m n = some x) (h0 : x.2.2.2 = 0) : pitch_Number.f x.1 x.2.1 x.2.2.1 = some (n, 0) := by
  by_cases ha : -7 ≤ a ∧ a ≤ 7
  · have h := sounds_at a n ha hn
    rw [show key_Spell.f a false n = some x from hx] at h
    simpa [sounds, h0] using h
  · unfold key_Spell.f at hx
    rw [if_neg ha] at hx
    cases hx
    simp at h0

theorem KeySpelled : partitalaw03_KeySpelled.Pure := by
  intro a m x y _ hx hy
  refine ⟨100, ?_⟩
  have bx : 0 ≤ x ∧ x < 256 := by
    have h : IntKind.u8.min ≤ x ∧ x ≤ IntKind.u8.max := by simpa [Lit.wf] using hx
    have e1 : IntKind.u8.min = 0 := rfl
    have e2 : IntKind.u8.max = 255 := rfl
    omega
  have by_ : 0 ≤ y ∧ y < 256 := by
    have h : IntKind.u8.min ≤ y ∧ y ≤ IntKind.u8.max := by simpa [Lit.wf] using hy
    have e1 : IntKind.u8.min = 0 := rfl
    have e2 : IntKind.u8.max = 255 := rfl
    omega
  have ex : wrap64 x = x := by unfold wrap64; omega
  have ey : wrap64 y = y := by unfold wrap64; omega
  unfold partitalaw03_KeySpelled.f
  rw [awake_ok, ex, ey]
  have rx : 0 ≤ Int.tmod x 128 ∧ Int.tmod x 128 ≤ 127 := by rw [Int.tmod_eq_emod_of_nonneg bx.1]; omega
  have ry : 0 ≤ Int.tmod y 128 ∧ Int.tmod y 128 ≤ 127 := by rw [Int.tmod_eq_emod_of_nonneg by_.1]; omega
  generalize Int.tmod x 128 = p at *
  generalize Int.tmod y 128 = q at *
  obtain ⟨u, hu⟩ := spell_some a m p
  obtain ⟨v, hv⟩ := spell_some a m q
  simp only [hu, hv, Option.bind_some]
  by_cases hu0 : u.2.2.2 = 0
  · rw [if_pos hu0]
    by_cases hv0 : v.2.2.2 = 0
    · rw [if_pos hv0]
      have nu := spell_sounds a m p rx u hu hu0
      have nv := spell_sounds a m q ry v hv hv0
      rw [nu]
      simp only [Option.bind_some, if_true]
      have key : (u.1 == v.1 && (u.2.1 == v.2.1 && (u.2.2.1 == v.2.2.1))) = (p == q) := by
        by_cases hpq : p = q
        · subst hpq
          rw [hu] at hv
          cases hv
          simp
        · rw [beq_eq_false_iff_ne.2 hpq, Bool.eq_false_iff]
          intro hh
          simp only [Bool.and_eq_true, beq_iff_eq] at hh
          rw [hh.1, hh.2.1, hh.2.2, nv] at nu
          cases nu
          exact hpq rfl
      rw [key]
      simp
    · rw [if_neg hv0]
  · rw [if_neg hu0]

end Go.Proofs.YtaanbojalolhnabDoor.Pure
