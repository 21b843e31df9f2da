/- For every key and number, key.Spell answers as the reference does; no condition. -/
import Derived.Test.YtaanbojalolhnaaDoorM16
namespace Go.Proofs.YtaanbojalolhnaaDoor.Pure
open Go.RowKit Go.Proofs.YtaanbojalolhnaaDoor.M Go.Proofs.YtaanbojalolhnaaDoorW.PrintWords Go.Proofs.YtaanbojalolhnaaDoorW.PrintLast
set_option maxRecDepth 100000
theorem awake_ok : partitalaw03_awake.f 300 = some true := by decide +kernel
theorem sp0_0 : ∀ m : Bool, ∀ n : Fin 32, key_Spell.f (-7) m (0 + (n.val : Int)) = partitaref03_Spell.f 300 (-7) m (0 + (n.val : Int)) := by decide +kernel
theorem sp0_1 : ∀ m : Bool, ∀ n : Fin 32, key_Spell.f (-7) m (32 + (n.val : Int)) = partitaref03_Spell.f 300 (-7) m (32 + (n.val : Int)) := by decide +kernel
theorem sp0_2 : ∀ m : Bool, ∀ n : Fin 32, key_Spell.f (-7) m (64 + (n.val : Int)) = partitaref03_Spell.f 300 (-7) m (64 + (n.val : Int)) := by decide +kernel
theorem sp0_3 : ∀ m : Bool, ∀ n : Fin 32, key_Spell.f (-7) m (96 + (n.val : Int)) = partitaref03_Spell.f 300 (-7) m (96 + (n.val : Int)) := by decide +kernel
theorem sp1_0 : ∀ m : Bool, ∀ n : Fin 32, key_Spell.f (-6) m (0 + (n.val : Int)) = partitaref03_Spell.f 300 (-6) m (0 + (n.val : Int)) := by decide +kernel
theorem sp1_1 : ∀ m : Bool, ∀ n : Fin 32, key_Spell.f (-6) m (32 + (n.val : Int)) = partitaref03_Spell.f 300 (-6) m (32 + (n.val : Int)) := by decide +kernel
theorem sp1_2 : ∀ m : Bool, ∀ n : Fin 32, key_Spell.f (-6) m (64 + (n.val : Int)) = partitaref03_Spell.f 300 (-6) m (64 + (n.val : Int)) := by decide +kernel
theorem sp1_3 : ∀ m : Bool, ∀ n : Fin 32, key_Spell.f (-6) m (96 + (n.val : Int)) = partitaref03_Spell.f 300 (-6) m (96 + (n.val : Int)) := by decide +kernel
theorem sp2_0 : ∀ m : Bool, ∀ n : Fin 32, key_Spell.f (-5) m (0 + (n.val : Int)) = partitaref03_Spell.f 300 (-5) m (0 + (n.val : Int)) := by decide +kernel
theorem sp2_1 : ∀ m : Bool, ∀ n : Fin 32, key_Spell.f (-5) m (32 + (n.val : Int)) = partitaref03_Spell.f 300 (-5) m (32 + (n.val : Int)) := by decide +kernel
theorem sp2_2 : ∀ m : Bool, ∀ n : Fin 32, key_Spell.f (-5) m (64 + (n.val : Int)) = partitaref03_Spell.f 300 (-5) m (64 + (n.val : Int)) := by decide +kernel
theorem sp2_3 : ∀ m : Bool, ∀ n : Fin 32, key_Spell.f (-5) m (96 + (n.val : Int)) = partitaref03_Spell.f 300 (-5) m (96 + (n.val : Int)) := by decide +kernel
theorem sp3_0 : ∀ m : Bool, ∀ n : Fin 32, key_Spell.f (-4) m (0 + (n.val : Int)) = partitaref03_Spell.f 300 (-4) m (0 + (n.val : Int)) := by decide +kernel
theorem sp3_1 : ∀ m : Bool, ∀ n : Fin 32, key_Spell.f (-4) m (32 + (n.val : Int)) = partitaref03_Spell.f 300 (-4) m (32 + (n.val : Int)) := by decide +kernel
theorem sp3_2 : ∀ m : Bool, ∀ n : Fin 32, key_Spell.f (-4) m (64 + (n.val : Int)) = partitaref03_Spell.f 300 (-4) m (64 + (n.val : Int)) := by decide +kernel
theorem sp3_3 : ∀ m : Bool, ∀ n : Fin 32, key_Spell.f (-4) m (96 + (n.val : Int)) = partitaref03_Spell.f 300 (-4) m (96 + (n.val : Int)) := by decide +kernel
theorem sp4_0 : ∀ m : Bool, ∀ n : Fin 32, key_Spell.f (-3) m (0 + (n.val : Int)) = partitaref03_Spell.f 300 (-3) m (0 + (n.val : Int)) := by decide +kernel
theorem sp4_1 : ∀ m : Bool, ∀ n : Fin 32, key_Spell.f (-3) m (32 + (n.val : Int)) = partitaref03_Spell.f 300 (-3) m (32 + (n.val : Int)) := by decide +kernel
theorem sp4_2 : ∀ m : Bool, ∀ n : Fin 32, key_Spell.f (-3) m (64 + (n.val : Int)) = partitaref03_Spell.f 300 (-3) m (64 + (n.val : Int)) := by decide +kernel
theorem sp4_3 : ∀ m : Bool, ∀ n : Fin 32, key_Spell.f (-3) m (96 + (n.val : Int)) = partitaref03_Spell.f 300 (-3) m (96 + (n.val : Int)) := by decide +kernel
theorem sp5_0 : ∀ m : Bool, ∀ n : Fin 32, key_Spell.f (-2) m (0 + (n.val : Int)) = partitaref03_Spell.f 300 (-2) m (0 + (n.val : Int)) := by decide +kernel
theorem sp5_1 : ∀ m : Bool, ∀ n : Fin 32, key_Spell.f (-2) m (32 + (n.val : Int)) = partitaref03_Spell.f 300 (-2) m (32 + (n.val : Int)) := by decide +kernel
theorem sp5_2 : ∀ m : Bool, ∀ n : Fin 32, key_Spell.f (-2) m (64 + (n.val : Int)) = partitaref03_Spell.f 300 (-2) m (64 + (n.val : Int)) := by decide +kernel
theorem sp5_3 : ∀ m : Bool, ∀ n : Fin 32, key_Spell.f (-2) m (96 + (n.val : Int)) = partitaref03_Spell.f 300 (-2) m (96 + (n.val : Int)) := by decide +kernel
theorem sp6_0 : ∀ m : Bool, ∀ n : Fin 32, key_Spell.f (-1) m (0 + (n.val : Int)) = partitaref03_Spell.f 300 (-1) m (0 + (n.val : Int)) := by decide +kernel
theorem sp6_1 : ∀ m : Bool, ∀ n : Fin 32, key_Spell.f (-1) m (32 + (n.val : Int)) = partitaref03_Spell.f 300 (-1) m (32 + (n.val : Int)) := by decide +kernel
theorem sp6_2 : ∀ m : Bool, ∀ n : Fin 32, key_Spell.f (-1) m (64 + (n.val : Int)) = partitaref03_Spell.f 300 (-1) m (64 + (n.val : Int)) := by decide +kernel
theorem sp6_3 : ∀ m : Bool, ∀ n : Fin 32, key_Spell.f (-1) m (96 + (n.val : Int)) = partitaref03_Spell.f 300 (-1) m (96 + (n.val : Int)) := by decide +kernel
theorem sp7_0 : ∀ m : Bool, ∀ n : Fin 32, key_Spell.f (0) m (0 + (n.val : Int)) = partitaref03_Spell.f 300 (0) m (0 + (n.val : Int)) := by decide +kernel
theorem sp7_1 : ∀ m : Bool, ∀ n : Fin 32, key_Spell.f (0) m (32 + (n.val : Int)) = partitaref03_Spell.f 300 (0) m (32 + (n.val : Int)) := by decide +kernel
theorem sp7_2 : ∀ m : Bool, ∀ n : Fin 32, key_Spell.f (0) m (64 + (n.val : Int)) = partitaref03_Spell.f 300 (0) m (64 + (n.val : Int)) := by decide +kernel
theorem sp7_3 : ∀ m : Bool, ∀ n : Fin 32, key_Spell.f (0) m (96 + (n.val : Int)) = partitaref03_Spell.f 300 (0) m (96 + (n.val : Int)) := by decide +kernel
theorem sp8_0 : ∀ m : Bool, ∀ n : Fin 32, key_Spell.f (1) m (0 + (n.val : Int)) = partitaref03_Spell.f 300 (1) m (0 + (n.val : Int)) := by decide +kernel
theorem sp8_1 : ∀ m : Bool, ∀ n : Fin 32, key_Spell.f (1) m (32 + (n.val : Int)) = partitaref03_Spell.f 300 (1) m (32 + (n.val : Int)) := by decide +kernel
theorem sp8_2 : ∀ m : Bool, ∀ n : Fin 32, key_Spell.f (1) m (64 + (n.val : Int)) = partitaref03_Spell.f 300 (1) m (64 + (n.val : Int)) := by decide +kernel
theorem sp8_3 : ∀ m : Bool, ∀ n : Fin 32, key_Spell.f (1) m (96 + (n.val : Int)) = partitaref03_Spell.f 300 (1) m (96 + (n.val : Int)) := by decide +kernel
theorem sp9_0 : ∀ m : Bool, ∀ n : Fin 32, key_Spell.f (2) m (0 + (n.val : Int)) = partitaref03_Spell.f 300 (2) m (0 + (n.val : Int)) := by decide +kernel
theorem sp9_1 : ∀ m : Bool, ∀ n : Fin 32, key_Spell.f (2) m (32 + (n.val : Int)) = partitaref03_Spell.f 300 (2) m (32 + (n.val : Int)) := by decide +kernel
theorem sp9_2 : ∀ m : Bool, ∀ n : Fin 32, key_Spell.f (2) m (64 + (n.val : Int)) = partitaref03_Spell.f 300 (2) m (64 + (n.val : Int)) := by decide +kernel
theorem sp9_3 : ∀ m : Bool, ∀ n : Fin 32, key_Spell.f (2) m (96 + (n.val : Int)) = partitaref03_Spell.f 300 (2) m (96 + (n.val : Int)) := by decide +kernel
theorem sp10_0 : ∀ m : Bool, ∀ n : Fin 32, key_Spell.f (3) m (0 + (n.val : Int)) = partitaref03_Spell.f 300 (3) m (0 + (n.val : Int)) := by decide +kernel
theorem sp10_1 : ∀ m : Bool, ∀ n : Fin 32, key_Spell.f (3) m (32 + (n.val : Int)) = partitaref03_Spell.f 300 (3) m (32 + (n.val : Int)) := by decide +kernel
theorem sp10_2 : ∀ m : Bool, ∀ n : Fin 32, key_Spell.f (3) m (64 + (n.val : Int)) = partitaref03_Spell.f 300 (3) m (64 + (n.val : Int)) := by decide +kernel
theorem sp10_3 : ∀ m : Bool, ∀ n : Fin 32, key_Spell.f (3) m (96 + (n.val : Int)) = partitaref03_Spell.f 300 (3) m (96 + (n.val : Int)) := by decide +kernel
theorem sp11_0 : ∀ m : Bool, ∀ n : Fin 32, key_Spell.f (4) m (0 + (n.val : Int)) = partitaref03_Spell.f 300 (4) m (0 + (n.val : Int)) := by decide +kernel
theorem sp11_1 : ∀ m : Bool, ∀ n : Fin 32, key_Spell.f (4) m (32 + (n.val : Int)) = partitaref03_Spell.f 300 (4) m (32 + (n.val : Int)) := by decide +kernel
theorem sp11_2 : ∀ m : Bool, ∀ n : Fin 32, key_Spell.f (4) m (64 + (n.val : Int)) = partitaref03_Spell.f 300 (4) m (64 + (n.val : Int)) := by decide +kernel
theorem sp11_3 : ∀ m : Bool, ∀ n : Fin 32, key_Spell.f (4) m (96 + (n.val : Int)) = partitaref03_Spell.f 300 (4) m (96 + (n.val : Int)) := by decide +kernel
theorem sp12_0 : ∀ m : Bool, ∀ n : Fin 32, key_Spell.f (5) m (0 + (n.val : Int)) = partitaref03_Spell.f 300 (5) m (0 + (n.val : Int)) := by decide +kernel
theorem sp12_1 : ∀ m : Bool, ∀ n : Fin 32, key_Spell.f (5) m (32 + (n.val : Int)) = partitaref03_Spell.f 300 (5) m (32 + (n.val : Int)) := by decide +kernel
theorem sp12_2 : ∀ m : Bool, ∀ n : Fin 32, key_Spell.f (5) m (64 + (n.val : Int)) = partitaref03_Spell.f 300 (5) m (64 + (n.val : Int)) := by decide +kernel
theorem sp12_3 : ∀ m : Bool, ∀ n : Fin 32, key_Spell.f (5) m (96 + (n.val : Int)) = partitaref03_Spell.f 300 (5) m (96 + (n.val : Int)) := by decide +kernel
theorem sp13_0 : ∀ m : Bool, ∀ n : Fin 32, key_Spell.f (6) m (0 + (n.val : Int)) = partitaref03_Spell.f 300 (6) m (0 + (n.val : Int)) := by decide +kernel
theorem sp13_1 : ∀ m : Bool, ∀ n : Fin 32, key_Spell.f (6) m (32 + (n.val : Int)) = partitaref03_Spell.f 300 (6) m (32 + (n.val : Int)) := by decide +kernel
theorem sp13_2 : ∀ m : Bool, ∀ n : Fin 32, key_Spell.f (6) m (64 + (n.val : Int)) = partitaref03_Spell.f 300 (6) m (64 + (n.val : Int)) := by decide +kernel
theorem sp13_3 : ∀ m : Bool, ∀ n : Fin 32, key_Spell.f (6) m (96 + (n.val : Int)) = partitaref03_Spell.f 300 (6) m (96 + (n.val : Int)) := by decide +kernel
theorem sp14_0 : ∀ m : Bool, ∀ n : Fin 32, key_Spell.f (7) m (0 + (n.val : Int)) = partitaref03_Spell.f 300 (7) m (0 + (n.val : Int)) := by decide +kernel
theorem sp14_1 : ∀ m : Bool, ∀ n : Fin 32, key_Spell.f (7) m (32 + (n.val : Int)) = partitaref03_Spell.f 300 (7) m (32 + (n.val : Int)) := by decide +kernel
theorem sp14_2 : ∀ m : Bool, ∀ n : Fin 32, key_Spell.f (7) m (64 + (n.val : Int)) = partitaref03_Spell.f 300 (7) m (64 + (n.val : Int)) := by decide +kernel
theorem sp14_3 : ∀ m : Bool, ∀ n : Fin 32, key_Spell.f (7) m (96 + (n.val : Int)) = partitaref03_Spell.f 300 (7) m (96 + (n.val : Int)) := by decide +kernel
theorem spells_at (i : Int) (m : Bool) (n : Int) (h1 : -7 ≤ i ∧ i ≤ 7) (h2 : 0 ≤ n ∧ n ≤ 127) : key_Spell.f i m n = partitaref03_Spell.f 300 i m n := by
  have hn : (∃ x : Fin 32, n = 0 + (x.val : Int)) ∨ (∃ x : Fin 32, n = 32 + (x.val : Int)) ∨ (∃ x : Fin 32, n = 64 + (x.val : Int)) ∨ (∃ x : Fin 32, n = 96 + (x.val : Int)) := by
    rcases (show n < 32 ∨ (32 ≤ n ∧ n < 64) ∨ (64 ≤ n ∧ n < 96) ∨ 96 ≤ n by omega) with h | h | h | h
    · exact .inl ⟨⟨n.toNat, by omega⟩, by simp only; omega⟩
    · exact .inr (.inl ⟨⟨(n - 32).toNat, by omega⟩, by simp only; omega⟩)
    · exact .inr (.inr (.inl ⟨⟨(n - 64).toNat, by omega⟩, by simp only; omega⟩))
    · exact .inr (.inr (.inr ⟨⟨(n - 96).toNat, by omega⟩, by simp only; omega⟩))
  rcases (show i = -7 ∨ i = -6 ∨ i = -5 ∨ i = -4 ∨ i = -3 ∨ i = -2 ∨ i = -1 ∨ i = 0 ∨ i = 1 ∨ i = 2 ∨ i = 3 ∨ i = 4 ∨ i = 5 ∨ i = 6 ∨ i = 7 by omega) with rfl | rfl | rfl | rfl | rfl | rfl | rfl | rfl | rfl | rfl | rfl | rfl | rfl | rfl | rfl <;> rcases hn with ⟨x, rfl⟩ | ⟨x, rfl⟩ | ⟨x, rfl⟩ | ⟨x, rfl⟩
  · exact sp0_0 m x
  · exact sp0_1 m x
  · exact sp0_2 m x
  · exact sp0_3 m x
  · exact sp1_0 m x
  · exact sp1_1 m x
  · exact sp1_2 m x
  · exact sp1_3 m x
  · exact sp2_0 m x
  · exact sp2_1 m x
  · exact sp2_2 m x
  · exact sp2_3 m x
  · exact sp3_0 m x
  · exact sp3_1 m x
  · exact sp3_2 m x
  · exact sp3_3 m x
  · exact sp4_0 m x
  · exact sp4_1 m x
  · exact sp4_2 m x
  · exact sp4_3 m x
  · exact sp5_0 m x
  · exact sp5_1 m x
  · exact sp5_2 m x
  · exact sp5_3 m x
  · exact sp6_0 m x
  · exact sp6_1 m x
  · exact sp6_2 m x
  · exact sp6_3 m x
  · exact sp7_0 m x
  · exact sp7_1 m x
  · exact sp7_2 m x
  · exact sp7_3 m x
  · exact sp8_0 m x
  · exact sp8_1 m x
  · exact sp8_2 m x
  · exact sp8_3 m x
  · exact sp9_0 m x
  · exact sp9_1 m x
  · exact sp9_2 m x
  · exact sp9_3 m x
  · exact sp10_0 m x
  · exact sp10_1 m x
  · exact sp10_2 m x
  · exact sp10_3 m x
  · exact sp11_0 m x
  · exact sp11_1 m x
  · exact sp11_2 m x
  · exact sp11_3 m x
  · exact sp12_0 m x
  · exact sp12_1 m x
  · exact sp12_2 m x
  · exact sp12_3 m x
  · exact sp13_0 m x
  · exact sp13_1 m x
  · exact sp13_2 m x
  · exact sp13_3 m x
  · exact sp14_0 m x
  · exact sp14_1 m x
  · exact sp14_2 m x
  · exact sp14_3 m x

theorem KeySpells : partitalaw03_KeySpells.Pure := by
  intro a m n _ _
  refine ⟨300, ?_⟩
  have key : key_Spell.f a m n = partitaref03_Spell.f 300 a m n := by
    by_cases hk : -7 ≤ a ∧ a ≤ 7
    · have e1 : partitaref03_Right.f a m = some true := by
        unfold partitaref03_Right.f
        rw [if_pos (by omega), decide_eq_true (by omega)]
      by_cases hn : 0 ≤ n ∧ n ≤ 127
      · exact spells_at a m n hk hn
      · unfold key_Spell.f partitaref03_Spell.f
        rw [if_pos hk, if_neg hn, e1]
        simp only [Option.bind_some, if_true]
        by_cases h0 : n < 0
        · rw [if_pos h0]; simp [partitaref03_Spell.j0]
        · rw [if_neg h0, decide_eq_true (by omega)]; simp [partitaref03_Spell.j0]
    · have e1 : partitaref03_Right.f a m = some false := by
        unfold partitaref03_Right.f
        by_cases h1 : a ≥ -7
        · rw [if_pos h1, decide_eq_false (by omega)]
        · rw [if_neg h1]
      unfold key_Spell.f partitaref03_Spell.f
      rw [if_neg hk, e1]
      simp
  have tot : ∃ x, key_Spell.f a m n = some x := by
    unfold key_Spell.f
    repeat' (first | exact ⟨_, rfl⟩ | split)
  obtain ⟨x, hx⟩ := tot
  have hx2 := hx
  rw [key] at hx2
  simp [partitalaw03_KeySpells.f, awake_ok, hx, hx2]
end Go.Proofs.YtaanbojalolhnaaDoor.Pure
