/- What the digits of a number are: how they are read again, how they begin. -/
import Derived.Lib.AtoiAll
import Derived.Lib.ItoaNum
import Derived.Lib.IndexMore
set_option linter.unusedVariables false
set_option linter.unusedSimpArgs false
namespace Go.Proofs.YtofolkbappinhaaDoor.Pure
open Go.Lib

theorem dig_nat {u : Nat} (h : u < 10) : (UInt8.ofNat (48 + u)).toNat = 48 + u := by
  rw [UInt8.toNat_ofNat']
  omega
theorem dd_small {u : Nat} (h : u < 10) : decDigits u = [UInt8.ofNat (48 + u)] := decDigits_one h
theorem dd_big {u : Nat} (h : ¬ u < 10) : decDigits u = decDigits (u / 10) ++ [UInt8.ofNat (48 + u % 10)] := by rw [decDigits, dif_neg h]
theorem dd_digit : ∀ (u : Nat), ∀ c ∈ decDigits u, 48 ≤ c.toNat ∧ c.toNat ≤ 57 := by
  intro u
  induction u using Nat.strongRecOn with
  | _ u ih =>
    intro c hc
    by_cases h : u < 10
    · rw [dd_small h, List.mem_singleton] at hc
      subst hc
      rw [dig_nat h]; omega
    · rw [dd_big h, List.mem_append, List.mem_singleton] at hc
      rcases hc with hc | rfl
      · exact ih (u / 10) (by omega) c hc
      · rw [dig_nat (by omega)]; omega
theorem dd_cons (u : Nat) : ∃ c r, decDigits u = c :: r ∧ (c.toNat = 48 → u = 0) := by
  induction u using Nat.strongRecOn with
  | _ u ih =>
    by_cases h : u < 10
    · exact ⟨_, _, dd_small h, fun e => by rw [dig_nat h] at e; omega⟩
    · obtain ⟨c, r, e, hc⟩ := ih (u / 10) (by omega)
      exact ⟨c, r ++ [UInt8.ofNat (48 + u % 10)], by rw [dd_big h, e]; rfl, fun hz => by have := hc hz; omega⟩
theorem parse_snoc (c : UInt8) (hc : 48 ≤ c.toNat ∧ c.toNat ≤ 57) : ∀ (l : List UInt8) (acc u : Nat), parseUint10 acc l = .ok u → u * 10 + (c.toNat - 48) < 18446744073709551616 → parseUint10 acc (l ++ [c]) = .ok (u * 10 + (c.toNat - 48)) := by
  intro l
  induction l with
  | nil =>
    intro acc u h hu
    simp only [parseUint10, NumEnd.ok.injEq] at h
    subst h
    rw [List.nil_append, parseUint10, if_pos hc, if_neg (by omega), if_neg (by omega), parseUint10]
  | cons a r ih =>
    intro acc u h hu
    rw [parseUint10] at h
    rw [List.cons_append, parseUint10]
    split at h
    · rename_i ha
      rw [if_pos ha]
      split at h
      · cases h
      · rename_i h1
        rw [if_neg h1]
        split at h
        · cases h
        · rename_i h2
          rw [if_neg h2]
          exact ih _ _ h hu
    · cases h
theorem parse_dd (u : Nat) (h : u < 10000000000000000000) : parseUint10 0 (decDigits u) = .ok u := by
  induction u using Nat.strongRecOn with
  | _ u ih =>
    by_cases h1 : u < 10
    · rw [dd_small h1, parseUint10, dig_nat h1, if_pos (by omega), if_neg (by omega), if_neg (by omega), parseUint10]
      congr 1; omega
    · rw [dd_big h1]
      have := parse_snoc (UInt8.ofNat (48 + u % 10)) (by rw [dig_nat (by omega)]; omega) (decDigits (u / 10)) 0 (u / 10) (ih (u / 10) (by omega) (by omega)) (by rw [dig_nat (by omega)]; omega)
      rw [this, dig_nat (by omega)]
      congr 1; omega
theorem atoi_itoa {n : Int} (h0 : -1000000000000000000 ≤ n) (h1 : n ≤ 1000000000000000000) : atoiAll (itoa n) = .ok n := by
  unfold itoa
  by_cases h : n < 0
  · rw [if_pos h]
    obtain ⟨c, r, e, _⟩ := dd_cons n.natAbs
    have hp : parseMag (decDigits n.natAbs) = .ok n.natAbs := by
      unfold parseMag
      rw [if_neg (by rw [e]; simp)]
      exact parse_dd _ (by omega)
    unfold atoiAll
    simp only
    rw [if_pos (.inr (by decide)), hp]
    simp only
    rw [if_neg (fun hh => hh.1 (by decide)), if_neg (by omega), if_pos (by decide)]
    congr 1; omega
  · rw [if_neg h]
    obtain ⟨c, r, e, _⟩ := dd_cons n.toNat
    have hd := dd_digit n.toNat c (by rw [e]; simp)
    have hp : parseMag (c :: r) = .ok n.toNat := by
      unfold parseMag
      rw [if_neg (by simp), ← e]
      exact parse_dd _ (by omega)
    rw [e]
    unfold atoiAll
    simp only
    rw [if_neg (by omega), hp]
    simp only
    rw [if_neg (by omega), if_neg (by omega), if_neg (by omega)]
    congr 1; omega
theorem itoa_mem {n : Int} {c : UInt8} (h : c ∈ itoa n) : c.toNat = 45 ∨ 48 ≤ c.toNat ∧ c.toNat ≤ 57 := by
  unfold itoa at h
  split at h
  · rcases List.mem_cons.1 h with rfl | h
    · exact .inl (by decide)
    · exact .inr (dd_digit _ c h)
  · exact .inr (dd_digit _ c h)
theorem itoa_cons (n : Int) : ∃ c r, itoa n = c :: r ∧ (c.toNat = 48 → n = 0) := by
  unfold itoa
  split
  · exact ⟨_, _, rfl, fun h => absurd h (by decide)⟩
  · obtain ⟨c, r, e, h⟩ := dd_cons n.toNat
    exact ⟨c, r, e, fun hc => by have := h hc; omega⟩
theorem itoa_last (n : Int) : ∃ r c, itoa n = r ++ [c] ∧ 48 ≤ c.toNat ∧ c.toNat ≤ 57 := by
  have key : ∀ u : Nat, ∃ r c, decDigits u = r ++ [c] ∧ 48 ≤ c.toNat ∧ c.toNat ≤ 57 := by
    intro u
    by_cases h : u < 10
    · exact ⟨[], _, dd_small h, by rw [dig_nat h]; omega⟩
    · exact ⟨_, _, dd_big h, by rw [dig_nat (by omega)]; omega⟩
  unfold itoa
  split
  · obtain ⟨r, c, e, h⟩ := key n.natAbs
    exact ⟨45 :: r, c, by rw [e]; rfl, h⟩
  · exact key n.toNat
theorem cut_none : ∀ (l : List UInt8), (∀ c ∈ l, c ≠ 47) → index l [47] = -1 := by
  intro l
  induction l with
  | nil => intro _; rfl
  | cons a r ih =>
    intro h
    have h1 : a ≠ 47 := h a (by simp)
    have h2 := ih (fun c hc => h c (by simp [hc]))
    unfold index
    rw [if_neg (by simp [List.isPrefixOf, Ne.symm h1]), h2]
    rfl
theorem cut_at : ∀ (l r : List UInt8), (∀ c ∈ l, c ≠ 47) → index (l ++ 47 :: r) [47] = (l.length : Int) := by
  intro l
  induction l with
  | nil => intro r _; simp [index, List.isPrefixOf]
  | cons a t ih =>
    intro r h
    have h1 : a ≠ 47 := h a (by simp)
    have h2 := ih r (fun c hc => h c (by simp [hc]))
    rw [List.cons_append]
    unfold index
    rw [if_neg (by simp [List.isPrefixOf, Ne.symm h1]), h2, if_neg (by rw [beq_iff_eq]; omega)]
    rw [List.length_cons]; omega
theorem cut_no {l : List UInt8} (h : ∀ c ∈ l, c ≠ 47) : cut l [47] = (l, [], false) := by
  unfold cut
  rw [cut_none l h, if_neg (by decide)]
theorem cut_yes {l r : List UInt8} (h : ∀ c ∈ l, c ≠ 47) : cut (l ++ 47 :: r) [47] = (l, r, true) := by
  unfold cut
  rw [cut_at l r h, if_pos (by omega), Int.toNat_natCast]
  simp
theorem itoa_no (n : Int) : ∀ c ∈ itoa n, c ≠ 47 := by
  intro c hc e
  subst e
  have := itoa_mem hc
  revert this
  decide
end Go.Proofs.YtofolkbappinhaaDoor.Pure
