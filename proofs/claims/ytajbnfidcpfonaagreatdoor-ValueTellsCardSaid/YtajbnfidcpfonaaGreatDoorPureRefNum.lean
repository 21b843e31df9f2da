/- What the reference tells of numbers and ratios. -/
import Derived.Test.YtajbnfidcpfonaaGreatDoorPureSplit
import Derived.Test.YtajbnfidcpfonaaGreatDoorM18
import Derived.Test.YtajbnfidcpfonaaGreatDoorM21
import Derived.Test.YtajbnfidcpfonaaGreatDoorM26
import Derived.Lib.ItoaLen
set_option linter.unusedVariables false
set_option linter.unusedSimpArgs false
namespace Go.Proofs.YtajbnfidcpfonaaGreatDoor.Pure
open Go.RowKit Go.Proofs.Qx Go.Proofs.YtajbnfidcpfonaaGreatDoor.M Go.Proofs.YtajbnfidcpfonaaGreatDoorW.PrintWords Go.Proofs.YtajbnfidcpfonaaGreatDoorW.PrintLast Go.Proofs.YtajbnfidcpfonaaGreatDoorW.PrintMore Go.Lib
set_option maxRecDepth 100000

theorem size_eq {n : Int} (h : I64 n) : partitaref01_size.f n = some (n.natAbs : Int) := by
  obtain ⟨h0, h1⟩ := h
  unfold partitaref01_size.f
  split
  · rw [wr (x := n + 1) (by omega) (by omega), wr (by omega) (by omega), uw, uw]
    congr 1; omega
  · rw [uw]
    congr 1; omega
theorem divisor_eq : ∀ (n k a b : Nat), b < 2 ^ n → 2 * n + 1 ≤ k → partitaref01_divisor.l0 k (a : Int) (b : Int) = some ((Nat.gcd a b : Nat) : Int) := by
  intro n
  induction n with
  | zero =>
    intro k a b hb hk
    obtain ⟨k, rfl⟩ : ∃ m, k = m + 1 := ⟨k - 1, by omega⟩
    have hb0 : b = 0 := by simpa using hb
    subst hb0
    rw [partitaref01_divisor.l0, if_pos (show ((0 : Nat) : Int) = 0 from rfl), Nat.gcd_zero_right]
  | succ n ih =>
    intro k a b hb hk
    obtain ⟨k, rfl⟩ : ∃ m, k = m + 2 := ⟨k - 2, by omega⟩
    by_cases h0 : b = 0
    · subst h0
      rw [partitaref01_divisor.l0, if_pos (show ((0 : Nat) : Int) = 0 from rfl), Nat.gcd_zero_right]
    · rw [partitaref01_divisor.l0, if_neg (by omega), tmod_pos (by omega), ← Int.natCast_emod]
      by_cases h1 : a % b = 0
      · rw [h1, partitaref01_divisor.l0, if_pos (show ((0 : Nat) : Int) = 0 from rfl), Nat.gcd_comm, Nat.gcd_rec, h1, Nat.gcd_zero_left]
      · rw [partitaref01_divisor.l0, if_neg (by omega), tmod_pos (by omega), ← Int.natCast_emod]
        have hm := Nat.mod_lt a (show 0 < b by omega)
        have hh := mod_half (a := b) (b := a % b) (by omega) (by omega)
        rw [ih k (a % b) (b % (a % b)) (by rw [Nat.pow_succ] at hb; omega) (by omega)]
        congr 2
        rw [Nat.gcd_comm (a % b), ← Nat.gcd_rec, Nat.gcd_comm, Nat.gcd_comm, ← Nat.gcd_rec, Nat.gcd_comm]
theorem div_k {k : Nat} (hk : 130 ≤ k) {x y : Int} (hx : I64 x) (hy : I64 y) : partitaref01_divisor.f k (x.natAbs : Int) (y.natAbs : Int) = some ((Nat.gcd x.natAbs y.natAbs : Nat) : Int) :=
  divisor_eq 64 k _ _ (by obtain ⟨h0, h1⟩ := hy; have : (2 : Nat) ^ 64 = 18446744073709551616 := by decide
                          omega) (by omega)
theorem rOf_eq {k : Nat} (hk : 140 ≤ k) {num den : Int} (hn : I64 num) (hd : I64 den) : partitaref01_Of.f k num den = some (ofS num den) := by
  unfold partitaref01_Of.f ofS
  by_cases h0 : den = 0
  · rw [if_pos h0, if_pos h0]
  · rw [if_neg h0, if_neg h0, size_eq hn, Option.bind_some, size_eq hd, Option.bind_some, div_k (by omega) hn hd, Option.bind_some]
    have hg : 0 < Nat.gcd num.natAbs den.natAbs := Nat.gcd_pos_of_pos_right _ (by omega)
    rw [if_neg (by omega), tdiv_pos (by omega), tdiv_pos (by omega), ← Int.natCast_ediv, ← Int.natCast_ediv]
    have b1 : num.natAbs / Nat.gcd num.natAbs den.natAbs ≤ num.natAbs := Nat.div_le_self _ _
    have b2 : den.natAbs / Nat.gcd num.natAbs den.natAbs ≤ den.natAbs := Nat.div_le_self _ _
    generalize num.natAbs / Nat.gcd num.natAbs den.natAbs = n at b1 ⊢
    generalize den.natAbs / Nat.gcd num.natAbs den.natAbs = d at b2 ⊢
    obtain ⟨hn0, hn1⟩ := hn
    obtain ⟨hd0, hd1⟩ := hd
    have e1 : IntKind.u64.wrap (n : Int) = n := by rw [uw]; omega
    have e2 : IntKind.u64.wrap (d : Int) = d := by rw [uw]; omega
    rw [e1, e2]
    obtain ⟨k, rfl⟩ : ∃ m, k = m + 1 := ⟨k - 1, by omega⟩
    rw [partitaref01_Of.j0, partitaref01_Of.j0]
    by_cases hm1 : n > 1000000000
    · rw [if_pos (by omega), if_pos rfl, if_pos (.inl hm1)]
    · rw [if_neg (by omega)]
      by_cases hm2 : d > 1000000000
      · rw [if_pos (by rw [decide_eq_true_iff]; omega), if_pos (.inr hm2)]
      · rw [if_neg (by rw [decide_eq_true_iff]; omega), if_neg (show ¬ (n > 1000000000 ∨ d > 1000000000) by omega), wr (x := (n : Int)) (by omega) (by omega), wr (x := (d : Int)) (by omega) (by omega), wr (x := -(n : Int)) (by omega) (by omega)]
        split <;> rfl
theorem dig_nat {u : Nat} (h : u < 10) : (UInt8.ofNat (48 + u)).toNat = 48 + u := by
  rw [UInt8.toNat_ofNat']
  omega
theorem dd_small {u : Nat} (h : u < 10) : decDigits u = [UInt8.ofNat (48 + u)] := decDigits_one h
theorem dd_big {u : Nat} (h : ¬ u < 10) : decDigits u = decDigits (u / 10) ++ [UInt8.ofNat (48 + u % 10)] := by rw [decDigits, dif_neg h]
theorem same_data {a b : ByteArray} (h : a.data.toList = b.data.toList) : a = b := by
  obtain ⟨⟨x⟩⟩ := a
  obtain ⟨⟨y⟩⟩ := b
  obtain rfl : x = y := h
  rfl
theorem size_list (s : ByteArray) : s.size = s.data.toList.length := Array.length_toList.symm
theorem bsize (l : List UInt8) : (⟨l.toArray⟩ : ByteArray).size = l.length := List.size_toArray
theorem one_digit {d : Int} (h0 : 0 ≤ d) (h1 : d ≤ 9) : strOfNums [IntKind.u64.wrap (48 + d) % 256] = ⟨#[UInt8.ofNat (48 + d.toNat)]⟩ := by
  have e : (IntKind.u64.wrap (48 + d) % 256).toNat = 48 + d.toNat := by rw [uw]; omega
  unfold strOfNums
  rw [List.map_cons, List.map_nil, e]
theorem digits_run : ∀ (n x k : Nat) (s : ByteArray), x < 10 ^ (n + 1) → n + 1 ≤ k → n ≤ 20 → s.size + n ≤ 1000 → x < 18446744073709551616 → partitaref01_digits.l0 k (x : Int) s = some (⟨(decDigits x).toArray⟩ ++ s) := by
  intro n
  induction n with
  | zero =>
    intro x k s hx hk hn hs hu
    obtain ⟨k, rfl⟩ : ∃ m, k = m + 1 := ⟨k - 1, by omega⟩
    have hx' : x < 10 := by simpa using hx
    rw [partitaref01_digits.l0, if_neg (by omega), Option.bind_some, one_digit (by omega) (by omega), if_pos (by have : (⟨#[UInt8.ofNat (48 + ((x : Int)).toNat)]⟩ : ByteArray).size = 1 := rfl; omega), dd_small hx', Int.toNat_natCast]
  | succ n ih =>
    intro x k s hx hk hn hs hu
    obtain ⟨k, rfl⟩ : ∃ m, k = m + 1 := ⟨k - 1, by omega⟩
    by_cases h : x < 10
    · rw [partitaref01_digits.l0, if_neg (by omega), Option.bind_some, one_digit (by omega) (by omega), if_pos (by have : (⟨#[UInt8.ofNat (48 + ((x : Int)).toNat)]⟩ : ByteArray).size = 1 := rfl; omega), dd_small h, Int.toNat_natCast]
    · have hone : (⟨#[UInt8.ofNat (48 + (((x : Int) % 10)).toNat)]⟩ : ByteArray).size = 1 := rfl
      have hq : IntKind.u64.wrap ((x : Int) / 10) = ((x / 10 : Nat) : Int) := by rw [uw]; omega
      rw [partitaref01_digits.l0, if_pos (by omega), Option.bind_some, tmod_pos (by omega), one_digit (by omega) (by omega), if_pos (by omega), tdiv_pos (by omega), hq]
      rw [ih (x / 10) k _ (by rw [Nat.pow_succ] at hx; omega) (by omega) (by omega) (by rw [ByteArray.size_append]; omega) (by omega), dd_big h]
      congr 1
      refine same_data ?_
      have e : (((x : Int) % 10)).toNat = x % 10 := by omega
      rw [e]
      simp [ByteArray.data_append]
theorem Number_eq {k : Nat} (hk : 30 ≤ k) {n : Int} (h : I64 n) : partitaref01_Number.f k n = some ⟨(itoa n).toArray⟩ := by
  obtain ⟨h0, h1⟩ := h
  have big : (18446744073709551616 : Nat) ≤ 10 ^ (19 + 1) := by decide
  unfold partitaref01_Number.f
  by_cases hn : n < 0
  · rw [if_pos hn, size_eq ⟨h0, h1⟩, Option.bind_some]
    unfold partitaref01_digits.f
    rw [digits_run 19 n.natAbs k _ (by omega) (by omega) (by omega) (by decide) (by omega), Option.bind_some]
    have hl := digits_run 19 n.natAbs k (⟨#[]⟩ : ByteArray) (by omega) (by omega) (by omega) (by decide) (by omega)
    have hlen := Lib.itoa_length_le n h0 h1
    unfold itoa at hlen ⊢
    rw [if_pos hn, List.length_cons] at hlen
    have hz : ((⟨(decDigits n.natAbs).toArray⟩ : ByteArray) ++ (⟨#[]⟩ : ByteArray)).size ≤ 30 := by
      rw [ByteArray.size_append, bsize]
      have : (⟨#[]⟩ : ByteArray).size = 0 := rfl
      omega
    rw [if_pos (by omega), if_pos hn]
    congr 1
    refine same_data ?_
    simp [ByteArray.data_append]
  · rw [if_neg hn]
    unfold partitaref01_digits.f
    have hu : IntKind.u64.wrap n = ((n.toNat : Nat) : Int) := by rw [uw]; omega
    rw [hu, digits_run 19 n.toNat k _ (by omega) (by omega) (by omega) (by decide) (by omega), Option.bind_some]
    unfold itoa
    rw [if_neg hn]
    congr 1
    refine same_data ?_
    simp [ByteArray.data_append]
theorem w64 (x : Int) : I64 (wrap64 x) := by unfold wrap64 I64; omega
/-- the number's end: told, whatever the digits were -/
theorem rn_end (k : Nat) (hk : 31 ≤ k) (s t : ByteArray) (x : Int) (hx : I64 x) : ∃ n b, (if (t.size : Int) < (s.size : Int) then ((partitaref01_Number.f k (wrap64 (-x))).bind fun t263 => (some (wrap64 (-x), (t263.toList == s.toList)))) else ((partitaref01_Number.f k x).bind fun t264 => (some (x, (t264.toList == s.toList))))) = some (n, b) ∧ I64 n := by
  split
  · rw [Number_eq (by omega) (w64 _), Option.bind_some]
    exact ⟨_, _, rfl, w64 _⟩
  · rw [Number_eq (by omega) hx, Option.bind_some]
    exact ⟨_, _, rfl, hx⟩
theorem rn_tot (s t : ByteArray) (ht : t.size ≤ 100) : ∀ (d k i : Nat) (x : Int), I64 x → t.size ≤ d + i → d + 40 ≤ k → ∃ n b, partitaref01_ReadNumber.l0 k s t x (i : Int) = some (n, b) ∧ I64 n := by
  intro d
  induction d with
  | zero =>
    intro k i x hx hd hk
    obtain ⟨k, rfl⟩ : ∃ m, k = m + 1 := ⟨k - 1, by omega⟩
    rw [partitaref01_ReadNumber.l0, if_neg (by omega)]
    exact rn_end k (by omega) s t x hx
  | succ d ih =>
    intro k i x hx hd hk
    obtain ⟨k, rfl⟩ : ∃ m, k = m + 1 := ⟨k - 1, by omega⟩
    rw [partitaref01_ReadNumber.l0]
    by_cases hi : (i : Int) < (t.size : Int)
    · rw [if_pos hi, if_pos (by omega)]
      by_cases h1 : bt t (i : Int) < 48
      · rw [if_pos h1]
        exact ⟨0, false, rfl, ⟨by decide, by decide⟩⟩
      · rw [if_neg h1]
        by_cases h2 : bt t (i : Int) > 57
        · rw [if_pos h2]
          exact ⟨0, false, rfl, ⟨by decide, by decide⟩⟩
        · rw [if_neg h2, wr (x := (i : Int) + 1) (by omega) (by omega), show (i : Int) + 1 = ((i + 1 : Nat) : Int) by omega]
          exact ih k (i + 1) _ (w64 _) (by omega) (by omega)
    · rw [if_neg hi]
      exact rn_end k (by omega) s t x hx
theorem ReadNumber_tot {k : Nat} (hk : 300 ≤ k) (s : ByteArray) (hs : s.size ≤ 50) : ∃ n b, partitaref01_ReadNumber.f k s = some (n, b) ∧ I64 n := by
  obtain ⟨k, rfl⟩ : ∃ m, k = m + 3 := ⟨k - 3, by omega⟩
  have j2 : ∀ t : ByteArray, t.size ≤ 50 → ∀ b, ∃ n c, partitaref01_ReadNumber.j2 (k + 1) s t b = some (n, c) ∧ I64 n := by
    intro t ht b
    rw [partitaref01_ReadNumber.j2]
    split
    · exact ⟨0, false, rfl, ⟨by decide, by decide⟩⟩
    · exact rn_tot s t (by omega) 50 k 0 0 ⟨by decide, by decide⟩ (by omega) (by omega)
  have j1 : ∀ t : ByteArray, t.size ≤ 50 → ∃ n c, partitaref01_ReadNumber.j1 (k + 2) s t = some (n, c) ∧ I64 n := by
    intro t ht
    rw [partitaref01_ReadNumber.j1]
    split
    · exact j2 t ht _
    · exact j2 t ht _
  unfold partitaref01_ReadNumber.f
  by_cases h : (s.size : Int) > 0
  · rw [if_pos h, if_pos (by omega), partitaref01_ReadNumber.j0]
    split
    · rw [if_pos (by omega)]
      exact j1 _ (by rw [ByteArray.size_extract]; omega)
    · exact j1 s hs
  · rw [if_neg h, partitaref01_ReadNumber.j0, if_neg (by decide)]
    exact j1 s hs

end Go.Proofs.YtajbnfidcpfonaaGreatDoor.Pure
