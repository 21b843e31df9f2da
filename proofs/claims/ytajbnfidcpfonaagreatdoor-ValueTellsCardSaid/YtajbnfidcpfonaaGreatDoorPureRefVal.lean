/- What the reference tells of values: lengths, units, splits. -/
import Derived.Test.YtajbnfidcpfonaaGreatDoorZ1
import Derived.Test.YtajbnfidcpfonaaGreatDoorPureRefNum
set_option linter.unusedVariables false
set_option linter.unusedSimpArgs false
namespace Go.Proofs.YtajbnfidcpfonaaGreatDoor.Pure
open Go.RowKit Go.Proofs.Qx Go.Proofs.YtajbnfidcpfonaaGreatDoor.M Go.Proofs.YtajbnfidcpfonaaGreatDoorW.PrintWords Go.Proofs.YtajbnfidcpfonaaGreatDoorW.PrintLast Go.Proofs.YtajbnfidcpfonaaGreatDoorW.PrintMore
set_option maxRecDepth 100000

/-! ### small functions -/
theorem pow_run (n : Int) (h7 : n ≤ 7) : ∀ (j : Nat) (i x p : Int) (k K : Nat), i + j = n → 0 ≤ i → 1 ≤ p → p ≤ 2 ^ i.toNat → j + 1 ≤ k → r4_power.L3 K k (n, x, p, i) = some (x, p * 2 ^ j) := by
  intro j
  induction j with
  | zero =>
    intro i x p k K hi h0 h1 h2 hk
    obtain ⟨k, rfl⟩ : ∃ m, k = m + 1 := ⟨k - 1, by omega⟩
    simp only [r4_power.L3, r4_power.L3.S]
    rw [decide_eq_false (by omega), cond_false, Int.pow_zero, Int.mul_one]
  | succ j ih =>
    intro i x p k K hi h0 h1 h2 hk
    obtain ⟨k, rfl⟩ : ∃ m, k = m + 1 := ⟨k - 1, by omega⟩
    have hb : (2 : Int) ^ i.toNat ≤ 128 := by
      have : i = 0 ∨ i = 1 ∨ i = 2 ∨ i = 3 ∨ i = 4 ∨ i = 5 ∨ i = 6 := by omega
      rcases this with rfl | rfl | rfl | rfl | rfl | rfl | rfl <;> decide
    simp only [r4_power.L3, r4_power.L3.S]
    have e2 : (2 : Int) ^ (i + 1).toNat = 2 * 2 ^ i.toNat := by
      rw [show (i + 1).toNat = i.toNat + 1 by omega, Int.pow_succ, Int.mul_comm]
    rw [decide_eq_true (by omega), cond_true, wrI (x := 2 * p) (by omega) (by omega), wrI (x := i + 1) (by omega) (by omega),
      ih (i + 1) x (2 * p) k K (by omega) (by omega) (by omega) (by rw [e2]; omega) (by omega), Int.pow_succ]
    congr 2
    rw [Int.mul_comm 2 p, Int.mul_assoc, Int.mul_comm 2]
theorem pow4 {k : Nat} (hk : 10 ≤ k) {n : Int} (h0 : 0 ≤ n) (h7 : n ≤ 7) : r4_power.f k n = some (2 ^ n.toNat) := by
  unfold r4_power.f r4_power.t
  have hj : ∃ j : Nat, (0 : Int) + j = n := ⟨n.toNat, by omega⟩
  obtain ⟨j, hj⟩ := hj
  rw [pow_run n h7 j 0 0 1 k k hj (by decide) (by decide) (by decide) (by omega), Option.bind_some]
  rw [Int.one_mul, show n.toNat = j by omega]
theorem right4 (k : Nat) (b d n m : Int) : r4_Right.f k b d n m = some (decide (VR b d n m)) := by
  have no : ¬ VR b d n m → some false = some (decide (VR b d n m)) := fun h => by rw [decide_eq_false h]
  have ys : VR b d n m → some true = some (decide (VR b d n m)) := fun h => by rw [decide_eq_true h]
  unfold r4_Right.f r4_Right.t r4_Right.t.J3
  by_cases c1 : b < 0
  · rw [decide_eq_true c1, cond_true]; exact no (fun h => by unfold VR at h; omega)
  rw [decide_eq_false c1, cond_false]
  by_cases c2 : b > 6
  · rw [decide_eq_true c2, cond_true]; exact no (fun h => by unfold VR at h; omega)
  rw [decide_eq_false c2, cond_false]
  by_cases c3 : d < 0
  · rw [decide_eq_true c3, cond_true]; exact no (fun h => by unfold VR at h; omega)
  rw [decide_eq_false c3, cond_false]
  by_cases c4 : d > 2
  · rw [decide_eq_true c4, cond_true]; exact no (fun h => by unfold VR at h; omega)
  rw [decide_eq_false c4, cond_false]
  by_cases c5 : n = 0
  · subst c5
    by_cases c6 : m = 0
    · subst c6
      simp only [beq_self_eq_true, cond_true]
      exact ys ⟨by omega, by omega, by omega, by omega, .inl ⟨rfl, rfl⟩⟩
    · rw [beq_self_eq_true, cond_true, beq_eq_false_iff_ne.2 c6, cond_false]
      simp only [show (decide ((0 : Int) ≥ 2)) = false from rfl, cond_false]
      exact no (fun h => by unfold VR at h; omega)
  · rw [beq_eq_false_iff_ne.2 c5, cond_false]
    by_cases q1 : n ≥ 2
    · rw [decide_eq_true q1, cond_true]
      by_cases q2 : n ≤ 15
      · rw [decide_eq_true q2, cond_true]
        by_cases q3 : m ≥ 1
        · rw [decide_eq_true q3, cond_true]
          by_cases q4 : m ≤ 15
          · rw [decide_eq_true q4, cond_true]
            by_cases q5 : n = m
            · rw [beq_iff_eq.2 q5, Bool.not_true]; exact no (fun h => by unfold VR at h; omega)
            · rw [beq_eq_false_iff_ne.2 q5, Bool.not_false]; exact ys ⟨by omega, by omega, by omega, by omega, .inr ⟨q1, q2, q3, q4, q5⟩⟩
          · rw [decide_eq_false q4, cond_false]; exact no (fun h => by unfold VR at h; omega)
        · rw [decide_eq_false q3, cond_false]; exact no (fun h => by unfold VR at h; omega)
      · rw [decide_eq_false q2, cond_false]; exact no (fun h => by unfold VR at h; omega)
    · rw [decide_eq_false q1, cond_false]; exact no (fun h => by unfold VR at h; omega)
theorem Length4 {k : Nat} (hk : 150 ≤ k) (b d n m : Int) : r4_Length.f k b d n m = some (if VR b d n m then ofS (lnum d n m) (lden b d n) else (0, 0, 40)) := by
  unfold r4_Length.f r4_Length.t
  rw [right4, Option.bind_some]
  by_cases h : VR b d n m
  · have hb := l_bd h
    rw [decide_eq_true h, Bool.not_true, cond_false, if_pos h]
    obtain ⟨b0, b1, d0, d1, hn⟩ := h
    obtain ⟨p, e, p1, p2⟩ := pow_small b0 b1
    rw [wrI (x := d + 1) (by omega) (by omega), pow4 (by omega) (n := d + 1) (by omega) (by omega), Option.bind_some, pow4 (by omega) (n := b) (by omega) (by omega), Option.bind_some, pow4 (by omega) (n := d) (by omega) (by omega), Option.bind_some]
    have hd : (2 : Int) ^ (d + 1).toNat - 1 = dNum d ∧ (2 : Int) ^ d.toNat = dDen d := by
      have : d = 0 ∨ d = 1 ∨ d = 2 := by omega
      rcases this with rfl | rfl | rfl <;> decide
    obtain ⟨n1, n2, n3, n4⟩ := dn_bd d
    unfold lnum lden at hb ⊢
    rw [hd.2, Int.mul_comm (2 ^ b.toNat) (dDen d)]
    have q2 : (dDen d * 2 ^ b.toNat).natAbs ≤ 4 * 64 := mul_bd (by omega) (by rw [e]; omega)
    rw [wrI (x := dDen d * 2 ^ b.toNat) (by omega) (by omega), wrI (x := 2 ^ (d + 1).toNat - 1) (by omega) (by omega), hd.1]
    rcases hn with ⟨rfl, rfl⟩ | ⟨h1, h2, h3, h4, h5⟩
    · rw [if_pos rfl, if_pos rfl] at *
      rw [show (decide ((0 : Int) > 0)) = false from rfl, cond_false, rOf_eq (by omega) ⟨by omega, by omega⟩ ⟨by omega, by omega⟩, Option.bind_some]
    · rw [if_neg (show ¬ n = 0 by omega), if_neg (show ¬ n = 0 by omega)] at *
      rw [decide_eq_true (show n > 0 by omega), cond_true, wrI (x := dNum d * m) (by omega) (by omega), wrI (x := dDen d * 2 ^ b.toNat * n) (by omega) (by omega), rOf_eq (by omega) ⟨by omega, by omega⟩ ⟨by omega, by omega⟩, Option.bind_some]
  · rw [decide_eq_false h, Bool.not_false, cond_true, if_neg h]
theorem Length1 {k : Nat} (hk : 150 ≤ k) (b d n m : Int) : value_Length.f k b d n m = some (if VR b d n m then ofS (lnum d n m) (lden b d n) else (0, 0, 40)) := by
  by_cases h : VR b d n m
  · rw [if_pos h, Length_eq hk h]
  · rw [if_neg h, Length_no (by omega) h]
theorem right1 {k : Nat} (hk : 140 ≤ k) {a b : Int} (ha : I64 a) (hb : I64 b) : r1_Right.f k a b = some (decide (Rt a b)) := by
  unfold r1_Right.f r1_Right.t
  by_cases h1 : b < 1
  · rw [decide_eq_true h1, cond_true, decide_eq_false (fun h => by have := h.1; omega)]
  · rw [decide_eq_false h1, cond_false, rOf_eq hk ha hb, Option.bind_some]
    rcases ofS_spec a (den := b) (by omega) with ⟨p, q, e1, e2, e3⟩ | ⟨e1, e2⟩
    · rw [e1]
      dsimp only
      rw [beq_self_eq_true, cond_true]
      congr 1
      rw [Bool.eq_iff_iff, decide_eq_true_iff]
      constructor
      · intro h
        simp only [Bool.and_eq_true, beq_iff_eq] at h
        rw [h.1, h.2.1]; exact e2
      · intro h
        have := ofS_Rt h
        rw [e1] at this
        simp only [Prod.mk.injEq] at this
        simp [this.1, this.2.1]
    · rw [e1]
      have hn : ¬ Rt a b := fun h => e2 a b h rfl
      rw [decide_eq_false hn]; rfl
theorem Compare1 {k : Nat} (hk : 150 ≤ k) {a b c d : Int} (ha : I64 a) (hb : I64 b) (hc : I64 c) (hd : I64 d) : r1_Compare.f k a b c d = some (cmpS a b c d) := by
  unfold r1_Compare.f r1_Compare.t r1_both.f r1_both.t cmpS
  rw [right1 (by omega) ha hb, Option.bind_some]
  by_cases h1 : Rt a b
  · rw [decide_eq_true h1, cond_true, right1 (by omega) hc hd, Option.bind_some, Option.bind_some]
    by_cases h2 : Rt c d
    · rw [decide_eq_true h2, Bool.not_true, cond_false, if_pos ⟨h1, h2⟩]
      obtain ⟨b1, b2, b3, b4, b5⟩ := bounds h1 h2
      rw [Go.IntWalk.i64_left, Go.IntWalk.i64_left, wr (x := a * d) (by omega) (by omega), wr (x := c * b) (by omega) (by omega)]
      by_cases l : a * d < c * b
      · rw [decide_eq_true l, cond_true, if_pos l]
      · rw [decide_eq_false l, cond_false, if_neg l]
        by_cases g : a * d > c * b
        · rw [decide_eq_true g, cond_true, if_pos g]
        · rw [decide_eq_false g, cond_false, if_neg g]
    · rw [decide_eq_false h2, Bool.not_false, cond_true, if_neg (fun h => h2 h.2)]
  · rw [decide_eq_false h1, cond_false, Option.bind_some, Bool.not_false, cond_true, if_neg (fun h => h1 h.1)]
theorem units4 {k : Nat} {p q b d n m : Int} (hr : Rt p q) (hp : 0 ≤ p) (hn : (n = 0) ∨ (1 ≤ n ∧ n ≤ 15)) (hm : n = 0 ∨ (1 ≤ m ∧ m ≤ 15)) : r4_units.f k p q b d n m = some (uq p q n m) := by
  have h1 := hr.1
  have h2 := hr.2.1
  have h3 := hr.2.2.1
  unfold r4_units.f r4_units.t uq
  have e1 : IntKind.i64.wrap (p * 64) = p * 64 := wrI (by omega) (by omega)
  rw [e1]
  have key : ∀ N M : Int, 0 ≤ N → 0 < M → N ≤ 1000000000000 → M ≤ 1000000000000 → (if M = 0 then none else bif !(N.tmod M == 0) then some 0 else if M = 0 then none else some (IntKind.i64.wrap (N.tdiv M))) = some (if N % M = 0 then N / M else 0) := by
    intro N M hN hM hN1 hM1
    rw [tmod_pos hN, tdiv_pos hN, if_neg (by omega), if_neg (by omega)]
    have hd : 0 ≤ N / M := Int.ediv_nonneg hN (by omega)
    have hd2 : N / M ≤ N := Int.ediv_le_self _ hN
    rw [wrI (by omega) (by omega)]
    by_cases e : N % M = 0
    · rw [beq_iff_eq.2 e, Bool.not_true, cond_false, if_pos e]
    · rw [beq_eq_false_iff_ne.2 e, Bool.not_false, cond_true, if_neg e]
  by_cases h : n > 0
  · rw [decide_eq_true h, cond_true, if_pos h]
    obtain ⟨hn1, hn2⟩ := hn.resolve_left (by omega)
    obtain ⟨hm1, hm2⟩ := hm.resolve_left (by omega)
    have b1 := mul_bd (x := q) (y := m) (A := 1000000000) (B := 15) (by omega) (by omega)
    have b2 := mul_bd (x := p * 64) (y := n) (A := 64000000000) (B := 15) (by omega) (by omega)
    have b3 : 0 < q * m := Int.mul_pos (by omega) (by omega)
    have b4 : 0 ≤ p * 64 * n := Int.mul_nonneg (by omega) (by omega)
    rw [wrI (x := q * m) (by omega) (by omega), wrI (x := p * 64 * n) (by omega) (by omega)]
    exact key _ _ b4 b3 (by omega) (by omega)
  · rw [decide_eq_false h, cond_false, if_neg h]
    exact key _ _ (by omega) (by omega) (by omega) (by omega)

/-! ### the longest plain value -/
theorem units0 : ∀ p ∈ pairs, r4_units.t 0 (IntKind.i64.wrap (2 ^ (p.2 + 1).toNat - 1)) (IntKind.i64.wrap (2 ^ p.1.toNat * 2 ^ p.2.toNat)) 0 0 0 0 = some (u p.1 p.2) := by decide +kernel
theorem units_K (K : Nat) (a0 a1 a2 a3 a4 a5 : Int) : r4_units.f K a0 a1 a2 a3 a4 a5 = r4_units.t 0 a0 a1 a2 a3 a4 a5 := by unfold r4_units.f r4_units.t; rfl
theorem long_step {k K : Nat} (hK : 10 ≤ K) (x a z5 z6 z7 z8 : Int) (s : Int × Int × Int) {b d : Int} (h : (b, d) ∈ pairs) :
    r4_longest.L7 K (r4_power.f K) (r4_units.f K) (k + 1) (x, a, s.2.2, b, d, z5, z6, z7, z8, s.1, s.2.1, 0, 0) = r4_longest.L7 K (r4_power.f K) (r4_units.f K) k (x, a, (stp x s (b, d)).2.2, b, d + 1, z5, z6, z7, z8, (stp x s (b, d)).1, (stp x s (b, d)).2.1, 0, 0) := by
  have hb := of_pairs h
  have hu : r4_units.f K (IntKind.i64.wrap (2 ^ (d + 1).toNat - 1)) (IntKind.i64.wrap (2 ^ b.toNat * 2 ^ d.toNat)) 0 0 0 0 = some (u b d) := by rw [units_K]; exact units0 (b, d) h
  rw [r4_longest.L7]
  dsimp only
  rw [r4_longest.L7.S, decide_eq_true (by omega), cond_true, wrI (x := d + 1) (by omega) (by omega), pow4 hK (n := d + 1) (by omega) (by omega), Option.bind_some, pow4 hK (n := b) (by omega) (by omega), Option.bind_some, pow4 hK (n := d) (by omega) (by omega), Option.bind_some, hu, Option.bind_some]
  unfold stp
  by_cases h1 : u b d > s.2.2
  · rw [decide_eq_true h1, cond_true]
    by_cases h2 : u b d ≤ x
    · rw [decide_eq_true h2, cond_true, if_pos ⟨h1, h2⟩]
    · rw [decide_eq_false h2, cond_false, if_neg (fun h => h2 h.2)]
  · rw [decide_eq_false h1, cond_false, if_neg (fun h => h1 h.1)]
theorem long_row {k K : Nat} (hK : 10 ≤ K) (x a z5 z6 z7 z8 : Int) (s : Int × Int × Int) {b : Int} (h0 : 0 ≤ b) (h1 : b < 7) :
    r4_longest.L4 K (r4_power.f K) (r4_units.f K) (k + 1) (x, a, s.2.2, b, z5, z6, z7, z8, s.1, s.2.1, 0, 0) = r4_longest.L4 K (r4_power.f K) (r4_units.f K) k (x, a, (stp x (stp x (stp x s (b, 0)) (b, 1)) (b, 2)).2.2, b + 1, z5, z6, z7, z8, (stp x (stp x (stp x s (b, 0)) (b, 1)) (b, 2)).1, (stp x (stp x (stp x s (b, 0)) (b, 1)) (b, 2)).2.1, 0, 0) := by
  have hrow : ∀ Kr, 4 ≤ Kr → r4_longest.L7 K (r4_power.f K) (r4_units.f K) Kr (x, a, s.2.2, b, 0, z5, z6, z7, z8, s.1, s.2.1, 0, 0) = some (x, a, (stp x (stp x (stp x s (b, 0)) (b, 1)) (b, 2)).2.2, b, 3, z5, z6, z7, z8, (stp x (stp x (stp x s (b, 0)) (b, 1)) (b, 2)).1, (stp x (stp x (stp x s (b, 0)) (b, 1)) (b, 2)).2.1, 0, 0) := by
    intro Kr hKr
    obtain ⟨Kr, rfl⟩ : ∃ j, Kr = j + 1 + 1 + 1 + 1 := ⟨Kr - 4, by omega⟩
    rw [long_step hK x a _ _ _ _ s (mem_pairs ⟨h0, h1⟩ (by decide)), show (0 : Int) + 1 = 1 from rfl, long_step hK x a _ _ _ _ _ (mem_pairs ⟨h0, h1⟩ (by decide)),
      show (1 : Int) + 1 = 2 from rfl, long_step hK x a _ _ _ _ _ (mem_pairs ⟨h0, h1⟩ (by decide)), show (2 : Int) + 1 = 3 from rfl, r4_longest.L7]
    dsimp only
    rw [r4_longest.L7.S, show decide ((3 : Int) ≤ 2) = false from rfl, cond_false]
  rw [r4_longest.L4]
  dsimp only
  rw [r4_longest.L4.S, decide_eq_true (by omega), cond_true, hrow K (by omega), Option.bind_some]
  dsimp only
  rw [wrI (x := b + 1) (by omega) (by omega)]
theorem longest_eq {k : Nat} (hk : 20 ≤ k) (x : Int) : r4_longest.f k x = some ((fillS x).1, (fillS x).2.1, 0, 0, (fillS x).2.2) := by
  unfold r4_longest.f r4_longest.t
  obtain ⟨j, e⟩ : ∃ j, k = j + 1 + 1 + 1 + 1 + 1 + 1 + 1 + 1 := ⟨k - 8, by omega⟩
  have hK : 10 ≤ k := by omega
  have h0 : r4_longest.L4 k (r4_power.f k) (r4_units.f k) (j + 1 + 1 + 1 + 1 + 1 + 1 + 1 + 1) (x, 0, 0, 0, 0, 0, 0, 0, 0, 0, 0, 0) = some (0, (fillS x).2.2, 0, 0, 0, 0, (fillS x).1, (fillS x).2.1, 0, 0) := by
    have h := long_row (k := j + 1 + 1 + 1 + 1 + 1 + 1 + 1) hK x 0 0 0 0 0 (0, 0, 0) (b := 0) (by decide) (by decide)
    dsimp only at h
    rw [h, show (0 : Int) + 1 = 1 from rfl, long_row hK x _ _ _ _ _ _ (by decide) (by decide), show (1 : Int) + 1 = 2 from rfl, long_row hK x _ _ _ _ _ _ (by decide) (by decide),
      show (2 : Int) + 1 = 3 from rfl, long_row hK x _ _ _ _ _ _ (by decide) (by decide), show (3 : Int) + 1 = 4 from rfl, long_row hK x _ _ _ _ _ _ (by decide) (by decide),
      show (4 : Int) + 1 = 5 from rfl, long_row hK x _ _ _ _ _ _ (by decide) (by decide), show (5 : Int) + 1 = 6 from rfl, long_row hK x _ _ _ _ _ _ (by decide) (by decide),
      show (6 : Int) + 1 = 7 from rfl, r4_longest.L4]
    dsimp only
    rw [r4_longest.L4.S, show decide ((7 : Int) ≤ 6) = false from rfl, cond_false]
    simp only [fillS_def, pairs, List.foldl_cons, List.foldl_nil]
  rw [← e] at h0
  rw [h0, Option.bind_some]

/-! ### Split -/
def kin : List (List D) := [[D.int 0, D.int 0, D.int 0, D.int 0], [D.int 0, D.int 0, D.int 3, D.int 2], [D.int 0, D.int 0, D.int 5, D.int 4], [D.int 0, D.int 0, D.int 7, D.int 4]]
abbrev S10 (K : Nat) := r4_Split.L10 K (r4_kinds.f K) (r1_Right.f K) (r1_Compare.f K) (r4_units.f K) (r4_longest.f K)
abbrev S5 (K : Nat) := r4_Split.L5 K (r4_kinds.f K) (r1_Right.f K) (r1_Compare.f K) (r4_units.f K) (r4_longest.f K)
theorem s10_run {K : Nat} (hK : 20 ≤ K) (c p q n m : Int) (i : Nat) (hi : i < 4) (hn : (D.at kin i 2).toInt = n) (hm : (D.at kin i 3).toInt = m) : ∀ (f : Nat) (x : Int) (acc : List (List D)) (k : Nat), x ≤ (f : Int) → acc.length + f ≤ 100000 → f < k → x ≤ 1000000 →
    ∃ y, S10 K k (c, kin, (i : Int), x, p, q, acc) = some (c, kin, (i : Int), y, p, q, acc ++ (g n m x).map row23) := by
  intro f
  induction f with
  | zero =>
    intro x acc k hx hl hk hm2
    obtain ⟨k, rfl⟩ : ∃ m, k = m + 1 := ⟨k - 1, by omega⟩
    refine ⟨x, ?_⟩
    rw [S10, r4_Split.L10]
    dsimp only
    rw [r4_Split.L10.S, decide_eq_false (by omega), cond_false, g_zero (by omega), List.map_nil, List.append_nil]
  | succ f ih =>
    intro x acc k hx hl hk hm2
    obtain ⟨k, rfl⟩ : ∃ m, k = m + 1 := ⟨k - 1, by omega⟩
    by_cases h : 0 < x
    · have hf := fill_is h
      have hb := u_bd hf.1
      obtain ⟨y, hy⟩ := ih (x - (fillS x).2.2) (acc ++ [[D.int (fillS x).1, D.int (fillS x).2.1, D.int n, D.int m]]) k (by omega) (by rw [List.length_append, List.length_singleton]; omega) (by omega) (by omega)
      refine ⟨y, ?_⟩
      rw [S10, r4_Split.L10]
      dsimp only
      have hc : (0 : Int) ≤ (i : Int) ∧ (i : Int) < (kin.length : Int) := ⟨by omega, by show (i : Int) < ((4 : Nat) : Int); omega⟩
      rw [r4_Split.L10.S, decide_eq_true (by omega), cond_true, longest_eq hK, Option.bind_some, if_pos hc, if_pos hc, if_pos (by omega)]
      dsimp only
      rw [wrI (x := x - (fillS x).2.2) (by omega) (by omega), Int.toNat_natCast, hn, hm, show acc ++ (g n m x).map row23 = (acc ++ [[D.int (fillS x).1, D.int (fillS x).2.1, D.int n, D.int m]]) ++ (g n m (x - (fillS x).2.2)).map row23 by rw [g_pos h, List.map_cons, List.append_assoc]; rfl]
      exact hy
    · refine ⟨x, ?_⟩
      rw [S10, r4_Split.L10]
      dsimp only
      rw [r4_Split.L10.S, decide_eq_false (by omega), cond_false, g_zero (by omega), List.map_nil, List.append_nil]
theorem split4 {k : Nat} (hk : 40000 ≤ k) {p q : Int} (hp : I64 p) (hq : I64 q) : r4_Split.f k p q = some (if Rt p q ∧ 0 < p ∧ p ≤ 64 * q then ((spl p q).1.map row23, (spl p q).2) else ([], 41)) := by
  unfold r4_Split.f r4_Split.t
  rw [right1 (by omega) hp hq, Option.bind_some]
  by_cases hr : Rt p q
  rotate_left
  · rw [decide_eq_false hr, Bool.not_false, cond_true, if_neg (fun h => hr h.1)]
  rw [decide_eq_true hr, Bool.not_true, cond_false]
  by_cases h0 : p ≤ 0
  · rw [decide_eq_true h0, cond_true, if_neg (fun h => by have := h.2.1; omega)]
  rw [decide_eq_false h0, cond_false, Compare1 (by omega) hp hq ⟨by decide, by decide⟩ ⟨by decide, by decide⟩, Option.bind_some]
  have hR64 : Rt 64 1 := by unfold Rt; decide
  have hq0 := hr.1
  by_cases hc : p ≤ 64 * q
  rotate_left
  · have : cmpS p q 64 1 = 1 := by unfold cmpS; rw [if_pos ⟨hr, hR64⟩, if_neg (by omega), if_pos (by omega)]
    rw [this, show decide ((1 : Int) > 0) = true from rfl, cond_true, if_neg (fun h => hc h.2.2)]
  have hc0 : cmpS p q 64 1 ≤ 0 := by
    unfold cmpS
    rw [if_pos ⟨hr, hR64⟩]
    by_cases l : p * 1 < 64 * q
    · rw [if_pos l]; decide
    · rw [if_neg l, if_neg (by omega)]; decide
  rw [decide_eq_false (by omega), cond_false, if_pos ⟨hr, by omega, hc⟩, show r4_kinds.f k = some kin from rfl, Option.bind_some]
  have step : ∀ (j i : Nat) (n m : Int), i < 4 → (D.at kin i 2).toInt = n → (D.at kin i 3).toInt = m → (n = 0 ∨ (1 ≤ n ∧ n ≤ 7)) → (n = 0 ∨ (1 ≤ m ∧ m ≤ 15)) →
      S5 k (j + 1) (0, kin, (i : Int), p, q) = if 0 < uq p q n m then some (.inr (0, (g n m (uq p q n m)).map row23)) else S5 k j (0, kin, ((i + 1 : Nat) : Int), p, q) := by
    intro j i n m hi hn hm h1 h2
    have hb := uq_bd (p := p) (q := q) (n := n) (m := m) (by omega) hc hq0 (by omega) (by omega)
    rw [S5, r4_Split.L5]
    dsimp only
    have hcc : (0 : Int) ≤ (i : Int) ∧ (i : Int) < (kin.length : Int) := ⟨by omega, by show (i : Int) < ((4 : Nat) : Int); omega⟩
    rw [r4_Split.L5.S, decide_eq_true hcc.2, cond_true, if_pos hcc, Int.toNat_natCast, hn, hm, units4 hr (by omega) (by omega) h2, Option.bind_some]
    by_cases h : 0 < uq p q n m
    · rw [if_pos h, beq_eq_false_iff_ne.2 (by omega), cond_false]
      obtain ⟨y, hy⟩ := s10_run (K := k) (by omega) 0 p q n m i hi hn hm 28672 (uq p q n m) [] k (by omega) (by simp) (by omega) (by omega)
      show (S10 k k (0, kin, (i : Int), uq p q n m, p, q, [])).bind _ = _
      rw [hy, Option.bind_some]
      rfl
    · rw [if_neg h, beq_iff_eq.2 (by omega), cond_true, wrI (x := (i : Int) + 1) (by omega) (by omega)]
      rfl
  obtain ⟨j, e⟩ : ∃ j, k = j + 1 + 1 + 1 + 1 + 1 := ⟨k - 5, by omega⟩
  have h5 : S5 k (j + 1 + 1 + 1 + 1 + 1) (0, kin, ((0 : Nat) : Int), p, q) = some (if (spl p q).2 = 0 then .inr (0, (spl p q).1.map row23) else .inl 0) ∧ ((spl p q).2 = 0 ∨ spl p q = ([], 41)) := by
    unfold spl
    rw [step _ 0 0 0 (by decide) rfl rfl (by decide) (by decide)]
    by_cases c0 : 0 < uq p q 0 0
    · rw [if_pos c0, if_pos c0]; exact ⟨rfl, .inl rfl⟩
    rw [if_neg c0, if_neg c0, step _ 1 3 2 (by decide) rfl rfl (by decide) (by decide)]
    by_cases c1 : 0 < uq p q 3 2
    · rw [if_pos c1, if_pos c1]; exact ⟨rfl, .inl rfl⟩
    rw [if_neg c1, if_neg c1, step _ 2 5 4 (by decide) rfl rfl (by decide) (by decide)]
    by_cases c2 : 0 < uq p q 5 4
    · rw [if_pos c2, if_pos c2]; exact ⟨rfl, .inl rfl⟩
    rw [if_neg c2, if_neg c2, step _ 3 7 4 (by decide) rfl rfl (by decide) (by decide)]
    by_cases c3 : 0 < uq p q 7 4
    · rw [if_pos c3, if_pos c3]; exact ⟨rfl, .inl rfl⟩
    rw [if_neg c3, if_neg c3, S5, r4_Split.L5]
    exact ⟨rfl, .inr rfl⟩
  rw [← e] at h5
  show (S5 k k (0, kin, ((0 : Nat) : Int), p, q)).bind _ = _
  rw [h5.1, Option.bind_some]
  rcases h5.2 with h | h
  · rw [if_pos h, h]; rfl
  · rw [h]; rfl
theorem split1 {k : Nat} (hk : 40000 ≤ k) {p q : Int} (hp : I64 p) (hq : I64 q) : (value_Split.f k p q).map (fun r => (r.1.map row23, r.2)) = some (if Rt p q ∧ 0 < p ∧ p ≤ 64 * q then ((spl p q).1.map row23, (spl p q).2) else ([], 41)) := by
  by_cases h : Rt p q ∧ 0 < p ∧ p ≤ 64 * q
  · rw [if_pos h, split_eq hk h.1 h.2.1 h.2.2]; rfl
  · rw [if_neg h]
    have hno : value_Split.f k p q = some ([], 41) := by
      obtain ⟨k, rfl⟩ : ∃ j, k = j + 1 := ⟨k - 1, by omega⟩
      unfold value_Split.f
      rw [right_eq (by omega) hp hq, Option.bind_some]
      by_cases hr : Rt p q
      · rw [if_pos (decide_eq_true hr)]
        by_cases h0 : p ≤ 0
        · rw [if_pos h0, value_Split.j0, if_pos rfl]
        · have hR64 : Rt 64 1 := by unfold Rt; decide
          have hc : ¬ p ≤ 64 * q := fun hc => h ⟨hr, by omega, hc⟩
          have : cmpS p q 64 1 = 1 := by unfold cmpS; rw [if_pos ⟨hr, hR64⟩, if_neg (by omega), if_pos (by omega)]
          rw [if_neg h0, Compare_eq (by omega) hp hq ⟨by decide, by decide⟩ ⟨by decide, by decide⟩, Option.bind_some, this, value_Split.j0, if_pos (by decide)]
      · rw [if_neg (by rw [decide_eq_false hr]; decide), value_Split.j0, if_pos rfl]
    rw [hno]; rfl
theorem spl_len {p q : Int} (hp : 0 < p) (hq : p ≤ 64 * q) (hq0 : 0 < q) : (spl p q).1.length ≤ 28672 := by
  have hb : ∀ n m : Int, n ≤ 7 → (n ≤ 0 ∨ 1 ≤ m) → (g n m (uq p q n m)).length ≤ 28672 := fun n m h1 h2 => g_len n m 28672 _ (by have := uq_bd (p := p) (q := q) (n := n) (m := m) hp hq hq0 h1 h2; omega)
  unfold spl
  split
  · exact hb _ _ (by decide) (by decide)
  split
  · exact hb _ _ (by decide) (by decide)
  split
  · exact hb _ _ (by decide) (by decide)
  split
  · exact hb _ _ (by decide) (by decide)
  · exact Nat.zero_le _

end Go.Proofs.YtajbnfidcpfonaaGreatDoor.Pure
