/- Closed forms of the functions on ratios. -/
import Derived.Test.YtajbnfidcpfonaaGreatDoorM7
import Derived.Test.YtajbnfidcpfonaaGreatDoorM10
import Derived.Test.YtajbnfidcpfonaaGreatDoorM11
import Derived.Test.YtajbnfidcpfonaaGreatDoorM23
set_option linter.unusedVariables false
set_option linter.unusedSimpArgs false
namespace Go.Proofs.YtajbnfidcpfonaaGreatDoor.Pure
open Go.RowKit Go.Proofs.YtajbnfidcpfonaaGreatDoor.M Go.Proofs.YtajbnfidcpfonaaGreatDoorW.PrintWords Go.Proofs.YtajbnfidcpfonaaGreatDoorW.PrintLast Go.Proofs.YtajbnfidcpfonaaGreatDoorW.PrintMore

theorem wr {x : Int} (h0 : -9223372036854775808 ≤ x) (h1 : x ≤ 9223372036854775807) : wrap64 x = x := by unfold wrap64; omega
theorem uw (x : Int) : IntKind.u64.wrap x = x % 18446744073709551616 := rfl
theorem tdiv_pos {x y : Int} (h : 0 ≤ x) : Int.tdiv x y = x / y := Int.tdiv_eq_ediv_of_nonneg h
theorem tmod_pos {x y : Int} (h : 0 ≤ x) : Int.tmod x y = x % y := Int.tmod_eq_emod_of_nonneg h
/-- a number of 64 bits -/
def I64 (x : Int) : Prop := -9223372036854775808 ≤ x ∧ x ≤ 9223372036854775807
theorem wf64 {x : Int} (h : (Lit.int .i64 x).wf = true) : I64 x := by
  have h : IntKind.i64.min ≤ x ∧ x ≤ IntKind.i64.max := by simpa [Lit.wf] using h
  exact h
theorem abs_eq {n : Int} (h : I64 n) : ratio_abs.f n = some (n.natAbs : Int) := by
  obtain ⟨h0, h1⟩ := h
  unfold ratio_abs.f
  rw [uw, uw]
  split <;> (congr 1; omega)
theorem mod_half {a b : Nat} (hb : 0 < b) (h : b ≤ a) : 2 * (a % b) < a := by
  have h1 := Nat.mod_lt a hb
  have h2 := Nat.div_add_mod a b
  have h3 : 1 ≤ a / b := (Nat.one_le_div_iff hb).2 h
  have h4 : b * 1 ≤ b * (a / b) := Nat.mul_le_mul_left b h3
  omega
theorem common_eq : ∀ (n k a b : Nat), b < 2 ^ n → 2 * n + 1 ≤ k → ratio_common.f k (a : Int) (b : Int) = some ((Nat.gcd a b : Nat) : Int) := by
  intro n
  induction n with
  | zero =>
    intro k a b hb hk
    obtain ⟨k, rfl⟩ : ∃ m, k = m + 1 := ⟨k - 1, by omega⟩
    have hb0 : b = 0 := by simpa using hb
    subst hb0
    rw [ratio_common.f, if_pos (show ((0 : Nat) : Int) = 0 from rfl), Nat.gcd_zero_right]
  | succ n ih =>
    intro k a b hb hk
    obtain ⟨k, rfl⟩ : ∃ m, k = m + 2 := ⟨k - 2, by omega⟩
    by_cases h0 : b = 0
    · subst h0
      rw [ratio_common.f, if_pos (show ((0 : Nat) : Int) = 0 from rfl), Nat.gcd_zero_right]
    · rw [ratio_common.f, if_neg (by omega), tmod_pos (by omega), ← Int.natCast_emod]
      by_cases h1 : a % b = 0
      · rw [h1, ratio_common.f, if_pos (show ((0 : Nat) : Int) = 0 from rfl), Option.bind_some, Nat.gcd_comm, Nat.gcd_rec, h1, Nat.gcd_zero_left]
      · rw [ratio_common.f, if_neg (by omega), tmod_pos (by omega), ← Int.natCast_emod]
        have hm := Nat.mod_lt a (show 0 < b by omega)
        have hh := mod_half (a := b) (b := a % b) (by omega) (by omega)
        rw [ih k (a % b) (b % (a % b)) (by rw [Nat.pow_succ] at hb; omega) (by omega), Option.bind_some, Option.bind_some]
        congr 2
        rw [Nat.gcd_comm (a % b), ← Nat.gcd_rec, Nat.gcd_comm, Nat.gcd_comm, ← Nat.gcd_rec, Nat.gcd_comm]
/-- a ratio is right -/
def Rt (p q : Int) : Prop := 1 ≤ q ∧ p.natAbs ≤ 1000000000 ∧ q ≤ 1000000000 ∧ Nat.gcd p.natAbs q.natAbs = 1
instance (p q : Int) : Decidable (Rt p q) := by unfold Rt; infer_instance
theorem gcd_k {k : Nat} (hk : 130 ≤ k) {x y : Int} (hx : I64 x) (hy : I64 y) : ratio_common.f k (x.natAbs : Int) (y.natAbs : Int) = some ((Nat.gcd x.natAbs y.natAbs : Nat) : Int) :=
  common_eq 64 k _ _ (by obtain ⟨h0, h1⟩ := hy; have : (2 : Nat) ^ 64 = 18446744073709551616 := by decide
                         omega) (by omega)
theorem right_eq {k : Nat} (hk : 130 ≤ k) {p q : Int} (hp : I64 p) (hq : I64 q) : ratio_Right.f k p q = some (decide (Rt p q)) := by
  unfold ratio_Right.f
  by_cases h1 : q ≥ 1
  · rw [if_pos h1, abs_eq hp, Option.bind_some, abs_eq hq, Option.bind_some]
    by_cases h2 : mx (p.natAbs : Int) (q.natAbs : Int) ≤ 1000000000
    · rw [if_pos h2, Option.bind_some, Option.bind_some, gcd_k hk hp hq, Option.bind_some]
      congr 1
      rw [Bool.eq_iff_iff, beq_iff_eq, decide_eq_true_iff]
      unfold mx at h2
      unfold Rt
      constructor
      · intro h
        exact ⟨h1, by split at h2 <;> omega, by split at h2 <;> omega, by omega⟩
      · intro h
        rw [h.2.2.2]; rfl
    · rw [if_neg h2, decide_eq_false]
      intro h
      apply h2
      unfold mx
      obtain ⟨_, h4, h5, _⟩ := h
      split <;> omega
  · rw [if_neg h1, decide_eq_false (fun h => h1 h.1)]
/-- a number by a number -/
def ofS (num den : Int) : Int × Int × Int :=
  if den = 0 then (0, 0, 11) else if num.natAbs / Nat.gcd num.natAbs den.natAbs > 1000000000 ∨ den.natAbs / Nat.gcd num.natAbs den.natAbs > 1000000000 then (0, 0, 10)
  else if (decide (num < 0)) != (decide (den < 0)) then (-((num.natAbs / Nat.gcd num.natAbs den.natAbs : Nat) : Int), ((den.natAbs / Nat.gcd num.natAbs den.natAbs : Nat) : Int), 0)
  else (((num.natAbs / Nat.gcd num.natAbs den.natAbs : Nat) : Int), ((den.natAbs / Nat.gcd num.natAbs den.natAbs : Nat) : Int), 0)
theorem Of_eq {k : Nat} (hk : 130 ≤ k) {num den : Int} (hn : I64 num) (hd : I64 den) : ratio_Of.f k num den = some (ofS num den) := by
  unfold ratio_Of.f ofS
  by_cases h0 : den = 0
  · rw [if_pos h0, if_pos h0]
  · rw [if_neg h0, if_neg h0, abs_eq hn, Option.bind_some, abs_eq hd, Option.bind_some, gcd_k hk hn hd, Option.bind_some]
    have hg : 0 < Nat.gcd num.natAbs den.natAbs := Nat.gcd_pos_of_pos_right _ (by omega)
    rw [if_neg (by omega), tdiv_pos (by omega), tdiv_pos (by omega), ← Int.natCast_ediv, ← Int.natCast_ediv]
    have b1 : num.natAbs / Nat.gcd num.natAbs den.natAbs ≤ num.natAbs := Nat.div_le_self _ _
    have b2 : den.natAbs / Nat.gcd num.natAbs den.natAbs ≤ den.natAbs := Nat.div_le_self _ _
    generalize num.natAbs / Nat.gcd num.natAbs den.natAbs = n at b1 ⊢
    generalize den.natAbs / Nat.gcd num.natAbs den.natAbs = d at b2 ⊢
    obtain ⟨hn0, hn1⟩ := hn
    obtain ⟨hd0, hd1⟩ := hd
    have e1 : IntKind.u64.wrap (n : Int) = n := by rw [uw]; omega
    have e2 : IntKind.u64.wrap (d : Int) = d := by rw [uw]; omega
    rw [e1, e2]
    by_cases hm : n > 1000000000 ∨ d > 1000000000
    · rw [if_pos (by unfold mx; split <;> omega), if_pos hm]
    · rw [if_neg (by unfold mx; split <;> omega), if_neg hm, wr (x := (n : Int)) (by omega) (by omega), wr (x := (d : Int)) (by omega) (by omega), wr (x := -(n : Int)) (by omega) (by omega)]
      split <;> rfl
theorem unique_nat {P Q P' Q' : Nat} (h1 : Nat.gcd P Q = 1) (h2 : Nat.gcd P' Q' = 1) (hq : 0 < Q) (e : P * Q' = P' * Q) : P = P' ∧ Q = Q' := by
  have d1 : Q ∣ Q' := Nat.Coprime.dvd_of_dvd_mul_left (k := Q) (m := P) (n := Q') (by show Nat.gcd Q P = 1; rw [Nat.gcd_comm]; exact h1) ⟨P', by rw [e, Nat.mul_comm]⟩
  have d2 : Q' ∣ Q := Nat.Coprime.dvd_of_dvd_mul_left (k := Q') (m := P') (n := Q) (by show Nat.gcd Q' P' = 1; rw [Nat.gcd_comm]; exact h2) ⟨P, by rw [← e, Nat.mul_comm]⟩
  have hQ := Nat.dvd_antisymm d1 d2
  subst hQ
  exact ⟨Nat.eq_of_mul_eq_mul_right hq e, rfl⟩
theorem Rt_unique {p q p' q' : Int} (h : Rt p q) (h' : Rt p' q') (e : p * q' = p' * q) : p = p' ∧ q = q' := by
  have en : p.natAbs * q'.natAbs = p'.natAbs * q.natAbs := by rw [← Int.natAbs_mul, ← Int.natAbs_mul, e]
  obtain ⟨_, hq⟩ := unique_nat h.2.2.2 h'.2.2.2 (by have := h.1; omega) en
  have hqq : q = q' := by have := h.1; have := h'.1; omega
  subst hqq
  exact ⟨Int.eq_of_mul_eq_mul_right (by have := h.1; omega) e, rfl⟩
theorem ofS_spec (num : Int) {den : Int} (hd : den ≠ 0) : (∃ p q, ofS num den = (p, q, 0) ∧ Rt p q ∧ p * den = num * q) ∨ (ofS num den = (0, 0, 10) ∧ ∀ p q, Rt p q → p * den ≠ num * q) := by
  unfold ofS
  rw [if_neg hd]
  have hg : 0 < Nat.gcd num.natAbs den.natAbs := Nat.gcd_pos_of_pos_right _ (by omega)
  obtain ⟨n, hn⟩ := Nat.gcd_dvd_left num.natAbs den.natAbs
  obtain ⟨d, hdd⟩ := Nat.gcd_dvd_right num.natAbs den.natAbs
  have hc : Nat.gcd n d = 1 := by
    have := Nat.gcd_mul_left (Nat.gcd num.natAbs den.natAbs) n d
    rw [← hn, ← hdd] at this
    exact Nat.eq_of_mul_eq_mul_left hg (by rw [Nat.mul_one]; exact this.symm)
  have e1 : num.natAbs / Nat.gcd num.natAbs den.natAbs = n := Nat.div_eq_of_eq_mul_right hg hn
  have e2 : den.natAbs / Nat.gcd num.natAbs den.natAbs = d := Nat.div_eq_of_eq_mul_right hg hdd
  rw [e1, e2]
  generalize Nat.gcd num.natAbs den.natAbs = g at hg hn hdd
  have hd0 : 0 < d := by
    rcases Nat.eq_zero_or_pos d with h | h
    · subst h; omega
    · exact h
  by_cases hm : n > 1000000000 ∨ d > 1000000000
  · rw [if_pos hm]
    refine .inr ⟨rfl, fun p q hr e => ?_⟩
    have en : p.natAbs * den.natAbs = num.natAbs * q.natAbs := by rw [← Int.natAbs_mul, ← Int.natAbs_mul, e]
    rw [hn, hdd] at en
    have en2 : p.natAbs * d = n * q.natAbs := Nat.eq_of_mul_eq_mul_left hg (by rw [← Nat.mul_assoc, ← Nat.mul_assoc, Nat.mul_comm g p.natAbs, Nat.mul_assoc]; exact en)
    obtain ⟨u1, u2⟩ := unique_nat hr.2.2.2 hc (by have := hr.1; omega) en2
    have := hr.1
    have := hr.2.1
    have := hr.2.2.1
    omega
  · rw [if_neg hm]
    have hN : (num.natAbs : Int) = (g : Int) * n := by rw [hn]; exact Int.natCast_mul g n
    have hD : (den.natAbs : Int) = (g : Int) * d := by rw [hdd]; exact Int.natCast_mul g d
    have key : (n : Int) * ((g : Int) * d) = (g : Int) * n * d := by rw [Int.mul_left_comm, Int.mul_assoc]
    by_cases hs : (decide (num < 0) != decide (den < 0)) = true
    · rw [if_pos hs]
      refine .inl ⟨_, _, rfl, ⟨by omega, by omega, by omega, by rw [Int.natAbs_neg, Int.natAbs_natCast, Int.natAbs_natCast]; exact hc⟩, ?_⟩
      by_cases s1 : num < 0
      · have s2 : ¬ den < 0 := by intro h; simp [s1, h] at hs
        rw [show num = -((g : Int) * n) by omega, show den = (g : Int) * d by omega, Int.neg_mul, Int.neg_mul, key]
      · have s2 : den < 0 := by rcases Int.lt_or_le den 0 with h | h
                                · exact h
                                · simp [s1, show ¬ den < 0 by omega] at hs
        rw [show num = (g : Int) * n by omega, show den = -((g : Int) * d) by omega, Int.neg_mul, Int.mul_neg, Int.neg_neg, key]
    · rw [if_neg hs]
      refine .inl ⟨_, _, rfl, ⟨by omega, by omega, by omega, by rw [Int.natAbs_natCast, Int.natAbs_natCast]; exact hc⟩, ?_⟩
      by_cases s1 : num < 0
      · have s2 : den < 0 := by rcases Int.lt_or_le den 0 with h | h
                                · exact h
                                · exact absurd (by simp [s1, show ¬ den < 0 by omega]) hs
        rw [show num = -((g : Int) * n) by omega, show den = -((g : Int) * d) by omega, Int.mul_neg, Int.neg_mul, key]
      · have s2 : ¬ den < 0 := by intro h; exact absurd (by simp [s1, h]) hs
        rw [show num = (g : Int) * n by omega, show den = (g : Int) * d by omega, key]
theorem ofS_is {num den p q : Int} (hd : den ≠ 0) (hr : Rt p q) (e : p * den = num * q) : ofS num den = (p, q, 0) := by
  rcases ofS_spec num hd with ⟨p', q', h1, h2, h3⟩ | ⟨_, h⟩
  · have : p * q' = p' * q := Int.eq_of_mul_eq_mul_right hd (by
      rw [Int.mul_right_comm, e, Int.mul_right_comm p' q den, h3, Int.mul_right_comm])
    obtain ⟨rfl, rfl⟩ := Rt_unique hr h2 this
    exact h1
  · exact absurd e (h p q hr)
theorem ofS_0 (num : Int) : ofS num 0 = (0, 0, 11) := by unfold ofS; rw [if_pos rfl]
theorem mul_bd {x y : Int} {A B : Nat} (h1 : x.natAbs ≤ A) (h2 : y.natAbs ≤ B) : (x * y).natAbs ≤ A * B := by
  rw [Int.natAbs_mul]; exact Nat.mul_le_mul h1 h2
theorem bounds {a b c d : Int} (h1 : Rt a b) (h2 : Rt c d) : (a * d).natAbs ≤ 1000000000000000000 ∧ (c * b).natAbs ≤ 1000000000000000000 ∧ (b * d).natAbs ≤ 1000000000000000000 ∧ (a * c).natAbs ≤ 1000000000000000000 ∧ (b * c).natAbs ≤ 1000000000000000000 := by
  obtain ⟨x1, x2, x3, _⟩ := h1
  obtain ⟨y1, y2, y3, _⟩ := h2
  have e : 1000000000 * 1000000000 = 1000000000000000000 := by decide
  exact ⟨e ▸ mul_bd x2 (by omega), e ▸ mul_bd y2 (by omega), e ▸ mul_bd (by omega) (by omega), e ▸ mul_bd x2 y2, e ▸ mul_bd (by omega) y2⟩
theorem Rt_I64 {a b : Int} (h : Rt a b) : I64 a ∧ I64 b := by
  obtain ⟨x1, x2, x3, _⟩ := h
  exact ⟨⟨by omega, by omega⟩, ⟨by omega, by omega⟩⟩
theorem ofS_Rt {a b : Int} (h : Rt a b) : ofS a b = (a, b, 0) := ofS_is (by have := h.1; omega) h rfl
def cmpS (a b c d : Int) : Int := if Rt a b ∧ Rt c d then (if a * d < c * b then -1 else if a * d > c * b then 1 else 0) else 0
theorem Compare_eq {k : Nat} (hk : 150 ≤ k) {a b c d : Int} (ha : I64 a) (hb : I64 b) (hc : I64 c) (hd : I64 d) : ratio_Compare.f k a b c d = some (cmpS a b c d) := by
  unfold ratio_Compare.f cmpS
  obtain ⟨k, rfl⟩ : ∃ m, k = m + 1 := ⟨k - 1, by omega⟩
  rw [right_eq (by omega) ha hb, right_eq (by omega) hc hd, Option.bind_some, Option.bind_some, ratio_Compare.j0, ratio_Compare.j0]
  by_cases h1 : Rt a b
  · rw [if_pos (by simpa using h1)]
    by_cases h2 : Rt c d
    · rw [if_pos (by simpa using h2), if_pos (c := Rt a b ∧ Rt c d) ⟨h1, h2⟩]
      obtain ⟨b1, b2, b3, b4, b5⟩ := bounds h1 h2
      rw [wr (x := a * d) (by omega) (by omega), wr (x := c * b) (by omega) (by omega), wr (x := a * d - c * b) (by omega) (by omega)]
      by_cases e : a * d - c * b = 0
      · rw [if_pos (by simpa using e), if_neg (by omega), if_neg (by omega)]
      · rw [if_neg (by simpa using e)]
        by_cases l : a * d < c * b
        · rw [if_pos (by omega), if_pos l]
        · rw [if_neg (by omega), if_neg l, if_pos (by omega)]
    · rw [if_neg (by simpa using h2), if_pos rfl, if_neg (fun h => h2 h.2)]
  · rw [if_neg (by simpa using h1), if_pos rfl, if_neg (fun h => h1 h.1)]
theorem tdiv_floor {a b : Int} (hb : 0 < b) : (if Int.tmod a b < 0 then Int.tdiv a b - 1 else Int.tdiv a b) = a / b ∧ (if Int.tdiv a b * b > a then Int.tdiv a b - 1 else Int.tdiv a b) = a / b := by
  have h1 := Int.mul_ediv_add_emod a b
  have h2 := Int.emod_nonneg a (show b ≠ 0 by omega)
  have h3 := Int.emod_lt_of_pos a hb
  have h4 := Int.mul_tdiv_add_tmod a b
  rcases Int.lt_or_le a 0 with h | h
  · have e1 : Int.tdiv a b = -((-a) / b) := by rw [← Int.neg_neg a, Int.neg_tdiv, Int.neg_neg, tdiv_pos (by omega)]
    have g1 := Int.mul_ediv_add_emod (-a) b
    have g2 := Int.emod_nonneg (-a) (show b ≠ 0 by omega)
    have g3 := Int.emod_lt_of_pos (-a) hb
    have e2 : Int.tmod a b = -((-a) % b) := by
      have : b * Int.tdiv a b = -(b * ((-a) / b)) := by rw [e1, Int.mul_neg]
      omega
    by_cases hz : (-a) % b = 0
    · have : a / b = Int.tdiv a b := by
        rw [e1]
        have hq : a = b * (-((-a) / b)) := by rw [Int.mul_neg]; omega
        have := Int.mul_ediv_cancel_left (-((-a) / b)) (show b ≠ 0 by omega)
        rw [← hq] at this
        exact this
      constructor
      · rw [if_neg (by omega), this]
      · rw [if_neg (by rw [Int.mul_comm]; omega), this]
    · have hd : a / b = Int.tdiv a b - 1 := by
        rw [e1]
        refine (Int.ediv_emod_unique (a := a) (b := b) (r := b - (-a) % b) (q := -((-a) / b) - 1) hb).2 ⟨?_, by omega, by omega⟩ |>.1
        rw [Int.mul_sub, Int.mul_neg, Int.mul_one]
        omega
      constructor
      · rw [if_pos (by omega), hd]
      · rw [if_pos (by rw [Int.mul_comm]; omega), hd]
  · have e1 := tdiv_pos (x := a) (y := b) h
    have e2 := tmod_pos (x := a) (y := b) h
    constructor
    · rw [if_neg (by omega), e1]
    · rw [if_neg (by rw [Int.mul_comm]; omega), e1]
theorem div_bd {a b : Int} (h : Rt a b) : (Int.tdiv a b).natAbs ≤ 1000000000 ∧ (Int.tdiv a b * b).natAbs ≤ 1000000000 := by
  obtain ⟨x1, x2, x3, _⟩ := h
  have h1 : (Int.tdiv a b).natAbs = a.natAbs / b.natAbs := Int.natAbs_tdiv a b
  have h2 : a.natAbs / b.natAbs ≤ a.natAbs := Nat.div_le_self _ _
  have h3 : a.natAbs / b.natAbs * b.natAbs ≤ a.natAbs := Nat.div_mul_le_self _ _
  refine ⟨by omega, ?_⟩
  rw [Int.natAbs_mul, h1]; omega
theorem pick_eq {c n : Int} (h : I64 c) (h0 : 0 < n) (h1 : n ≤ 1000000000) : ∃ r, partitalaw04_pick.f c n = some r ∧ 0 ≤ r ∧ r < n := by
  obtain ⟨b0, b1⟩ := h
  unfold partitalaw04_pick.f
  by_cases hc : c < 0
  · rw [if_pos hc, if_neg (by omega), wr (x := c + 1) (by omega) (by omega), wr (x := -(c + 1)) (by omega) (by omega), tmod_pos (by omega)]
    exact ⟨_, rfl, Int.emod_nonneg _ (by omega), Int.emod_lt_of_pos _ h0⟩
  · rw [if_neg hc, if_neg (by omega), tmod_pos (by omega)]
    exact ⟨_, rfl, Int.emod_nonneg _ (by omega), Int.emod_lt_of_pos _ h0⟩
/-- a fraction of small terms has a right one -/
theorem reduce {n d : Int} (hd : d ≠ 0) (h1 : n.natAbs ≤ 1000000000) (h2 : d.natAbs ≤ 1000000000) : ∃ p q, ofS n d = (p, q, 0) ∧ Rt p q ∧ p * d = n * q := by
  rcases ofS_spec n hd with h | ⟨e, _⟩
  · exact h
  · exfalso
    unfold ofS at e
    rw [if_neg hd] at e
    have b1 : n.natAbs / Nat.gcd n.natAbs d.natAbs ≤ n.natAbs := Nat.div_le_self _ _
    have b2 : d.natAbs / Nat.gcd n.natAbs d.natAbs ≤ d.natAbs := Nat.div_le_self _ _
    rw [if_neg (by omega)] at e
    split at e <;> simp at e

end Go.Proofs.YtajbnfidcpfonaaGreatDoor.Pure
