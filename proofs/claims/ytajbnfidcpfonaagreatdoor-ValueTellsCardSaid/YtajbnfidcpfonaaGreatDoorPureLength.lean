/- Lengths in closed form. -/
import Derived.Test.YtajbnfidcpfonaaGreatDoorM8
import Derived.Test.YtajbnfidcpfonaaGreatDoorPureMaker
set_option linter.unusedVariables false
set_option linter.unusedSimpArgs false
namespace Go.Proofs.YtajbnfidcpfonaaGreatDoor.Pure
open Go.RowKit Go.Proofs.YtajbnfidcpfonaaGreatDoor.M Go.Proofs.YtajbnfidcpfonaaGreatDoorW.PrintWords Go.Proofs.YtajbnfidcpfonaaGreatDoorW.PrintLast Go.Proofs.YtajbnfidcpfonaaGreatDoorW.PrintMore

instance (b d n m : Int) : Decidable (VR b d n m) := by unfold VR; exact inferInstance
theorem within_eq (n l h : Int) : value_within.f n l h = some (decide (l ≤ n ∧ n ≤ h)) := by
  unfold value_within.f
  by_cases h1 : n ≥ l
  · rw [if_pos h1]; congr 1; by_cases h2 : n ≤ h <;> simp [h2] <;> omega
  · rw [if_neg h1]; congr 1; simp; omega
theorem vright_eq {k : Nat} (hk : 1 ≤ k) (b d n m : Int) : value_Right.f k b d n m = some (decide (VR b d n m)) := by
  obtain ⟨k, rfl⟩ : ∃ j, k = j + 1 := ⟨k - 1, by omega⟩
  unfold value_Right.f
  simp only [value_Right.j0, within_eq, Option.bind_some]
  unfold VR
  by_cases c1 : 2 ≤ n ∧ n ≤ 15 <;> by_cases c2 : 1 ≤ m ∧ m ≤ 15 <;> by_cases c3 : 0 ≤ b ∧ b ≤ 6 <;> by_cases c4 : 0 ≤ d ∧ d ≤ 2 <;> by_cases c5 : n = 0 <;> by_cases c6 : m = 0 <;> by_cases c7 : n = m <;> simp [c1, c2, c3, c4, c5, c6, c7] <;> first | omega | (rw [bne_iff_ne.2 c7]; simp; omega)
theorem pow_small {b : Int} (h0 : 0 ≤ b) (h1 : b < 7) : ∃ p : Nat, (2 : Int) ^ b.toNat = (p : Int) ∧ 1 ≤ p ∧ p ≤ 64 := by
  have : b = 0 ∨ b = 1 ∨ b = 2 ∨ b = 3 ∨ b = 4 ∨ b = 5 ∨ b = 6 := by omega
  rcases this with rfl | rfl | rfl | rfl | rfl | rfl | rfl
  · exact ⟨1, by decide, by decide, by decide⟩
  · exact ⟨2, by decide, by decide, by decide⟩
  · exact ⟨4, by decide, by decide, by decide⟩
  · exact ⟨8, by decide, by decide, by decide⟩
  · exact ⟨16, by decide, by decide, by decide⟩
  · exact ⟨32, by decide, by decide, by decide⟩
  · exact ⟨64, by decide, by decide, by decide⟩
theorem shl_eq {x b : Int} (h0 : 0 ≤ b) (h1 : b < 7) (hx : x.natAbs ≤ 1000) : shl .i64 x b = x * 2 ^ b.toNat := by
  obtain ⟨p, e, p1, p2⟩ := pow_small h0 h1
  unfold shl
  have hm : min b.toNat (IntKind.i64).bits = b.toNat := Nat.min_eq_left (by show b.toNat ≤ 64; omega)
  rw [hm, e]
  rw [i64_w]
  have := mul_bd (x := x) (y := (p : Int)) (A := 1000) (B := 64) hx (by omega)
  exact wr (by omega) (by omega)
def lnum (d n m : Int) : Int := if n = 0 then dNum d else dNum d * m
def lden (b d n : Int) : Int := if n = 0 then dDen d * 2 ^ b.toNat else dDen d * 2 ^ b.toNat * n
theorem dn_bd (d : Int) : 1 ≤ dNum d ∧ dNum d ≤ 7 ∧ 1 ≤ dDen d ∧ dDen d ≤ 4 := by
  unfold dNum dDen; split <;> (try split) <;> omega
theorem l_bd {b d n m : Int} (h : VR b d n m) : 1 ≤ lnum d n m ∧ lnum d n m ≤ 105 ∧ 1 ≤ lden b d n ∧ lden b d n ≤ 3840 := by
  obtain ⟨b0, b1, d0, d1, hn⟩ := h
  obtain ⟨p, e, p1, p2⟩ := pow_small b0 b1
  obtain ⟨n1, n2, n3, n4⟩ := dn_bd d
  unfold lnum lden
  rw [e]
  have q1 : 1 ≤ dDen d * p := by have := Int.mul_le_mul n3 (show (1 : Int) ≤ p by omega) (by decide) (by omega); omega
  have q2 : dDen d * p ≤ 256 := by have := Int.mul_le_mul n4 (show (p : Int) ≤ 64 by omega) (by omega) (by decide); omega
  rcases hn with ⟨rfl, rfl⟩ | ⟨h1, h2, h3, h4, h5⟩
  · rw [if_pos rfl, if_pos rfl]; omega
  · rw [if_neg (by omega), if_neg (by omega)]
    have r1 := Int.mul_le_mul n1 h3 (by decide) (by omega)
    have r2 := Int.mul_le_mul n2 h4 (by omega) (by decide)
    have r3 := Int.mul_le_mul q1 (show (1 : Int) ≤ n by omega) (by decide) (by omega)
    have r4 := Int.mul_le_mul q2 h2 (by omega) (by decide)
    omega
theorem Length_eq {k : Nat} (hk : 150 ≤ k) {b d n m : Int} (h : VR b d n m) : value_Length.f k b d n m = some (ofS (lnum d n m) (lden b d n)) := by
  have hb := l_bd h
  unfold value_Length.f
  rw [vright_eq (by omega), Option.bind_some, if_pos (decide_eq_true h)]
  obtain ⟨b0, b1, d0, d1, hn⟩ := h
  unfold value_dotAddr.f
  rw [if_pos ⟨d0, d1⟩, Option.bind_some]
  unfold value_dotLoad.f
  rw [if_pos ⟨d0, d1⟩, Option.bind_some, if_pos b0]
  obtain ⟨n1, n2, n3, n4⟩ := dn_bd d
  dsimp only
  rw [shl_eq b0 b1 (by omega)]
  unfold lnum lden at hb ⊢
  rcases hn with ⟨rfl, rfl⟩ | ⟨h1, h2, h3, h4, h5⟩
  · rw [if_pos rfl, if_pos rfl] at *
    rw [if_neg (by decide), Of_eq (by omega) ⟨by omega, by omega⟩ ⟨by omega, by omega⟩]; rfl
  · rw [if_neg (show ¬ n = 0 by omega), if_neg (show ¬ n = 0 by omega)] at *
    rw [if_pos (by omega), wr (x := dNum d * m) (by omega) (by omega), wr (x := dDen d * 2 ^ b.toNat * n) (by omega) (by omega), Of_eq (by omega) ⟨by omega, by omega⟩ ⟨by omega, by omega⟩]; rfl
theorem Length_no {k : Nat} (hk : 1 ≤ k) {b d n m : Int} (h : ¬ VR b d n m) : value_Length.f k b d n m = some (0, 0, 40) := by
  unfold value_Length.f
  rw [vright_eq hk, Option.bind_some, if_neg (by rw [decide_eq_false h]; decide)]
theorem Length_R {k : Nat} (hk : 150 ≤ k) {b d n m : Int} (h : VR b d n m) : ∃ p q, value_Length.f k b d n m = some (p, q, 0) ∧ Rt p q ∧ p * lden b d n = lnum d n m * q := by
  have hb := l_bd h
  obtain ⟨p, q, e, hr, he⟩ := reduce (n := lnum d n m) (d := lden b d n) (by omega) (by omega) (by omega)
  exact ⟨p, q, by rw [Length_eq hk h, e], hr, he⟩
theorem lnum_n {d n m : Int} (h : n ≠ 0) : lnum d n m = dNum d * m := if_neg h

end Go.Proofs.YtajbnfidcpfonaaGreatDoor.Pure
