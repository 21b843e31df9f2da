/- What a length is split into is as long, of one kind, from longer to shorter. -/
import Derived.Test.YtajbnfidcpfonaaDoorPureSplit
set_option linter.unusedVariables false
set_option linter.unusedSimpArgs false
namespace Go.Proofs.YtajbnfidcpfonaaDoor.Pure
open Go.RowKit Go.Proofs.Qx Go.Proofs.YtajbnfidcpfonaaDoor.M Go.Proofs.YtajbnfidcpfonaaDoorW.PrintWords Go.Proofs.YtajbnfidcpfonaaDoorW.PrintLast Go.Proofs.YtajbnfidcpfonaaDoorW.PrintMore

/-- The four kinds. -/
def K4 (n m : Int) : Prop := (n = 0 ∧ m = 0) ∨ (n = 3 ∧ m = 2) ∨ (n = 5 ∧ m = 4) ∨ (n = 7 ∧ m = 4)
def nn (n : Int) : Int := if n = 0 then 1 else n
def mm (n m : Int) : Int := if n = 0 then 1 else m
theorem K4_nm {n m : Int} (h : K4 n m) : 1 ≤ nn n ∧ nn n ≤ 7 ∧ 1 ≤ mm n m ∧ mm n m ≤ 4 := by
  unfold nn mm
  rcases h with ⟨rfl, rfl⟩ | ⟨rfl, rfl⟩ | ⟨rfl, rfl⟩ | ⟨rfl, rfl⟩ <;> decide
theorem VRk {b d n m : Int} (h : (b, d) ∈ pairs) (hk : K4 n m) : VR b d n m := by
  obtain ⟨h1, h2, h3, h4⟩ := of_pairs h
  refine ⟨h1, h2, h3, h4, ?_⟩
  rcases hk with ⟨rfl, rfl⟩ | ⟨rfl, rfl⟩ | ⟨rfl, rfl⟩ | ⟨rfl, rfl⟩
  · exact .inl ⟨rfl, rfl⟩
  all_goals exact .inr (by decide)
theorem at_row {l : List S23} {i : Nat} (h : i < l.length) : D.at (l.map row23) i 0 = .int l[i].f0 ∧ D.at (l.map row23) i 1 = .int l[i].f1 ∧ D.at (l.map row23) i 2 = .int l[i].f2 ∧ D.at (l.map row23) i 3 = .int l[i].f3 := by
  have : ∀ j, D.at (l.map row23) i j = (row23 l[i]).getD j (.int 0) := by
    intro j
    simp [D.at, List.getD_eq_getElem?_getD, List.getElem?_map, List.getElem?_eq_getElem h]
  refine ⟨this 0, this 1, this 2, this 3⟩
/-- The length of a value of a kind, out of its units. -/
theorem kind_len {k : Nat} (hk : 150 ≤ k) {b d n m : Int} (h : (b, d) ∈ pairs) (hn : K4 n m) (hu : u b d ≠ 0) : ∃ p q, value_Length.f k b d n m = some (p, q, 0) ∧ Rt p q ∧ p * (64 * nn n) = u b d * mm n m * q := by
  obtain ⟨p, q, e, hr, he⟩ := Length_R (k := k) hk (VRk h hn)
  refine ⟨p, q, e, hr, ?_⟩
  have hb := l_bd (VR0 h)
  simp only [lnum, lden, if_true] at hb
  obtain ⟨h1, _, h3, _⟩ := hb
  have hun : u b d * (dDen d * 2 ^ b.toNat) = 64 * dNum d := by
    unfold u at hu ⊢
    by_cases hm : (64 * dNum d) % (dDen d * 2 ^ b.toNat) = 0
    · rw [if_pos hm, Int.mul_comm]; exact Int.mul_ediv_cancel' (Int.dvd_of_emod_eq_zero hm)
    · rw [if_neg hm] at hu; exact absurd rfl hu
  unfold lnum lden at he
  unfold nn mm
  generalize dDen d * 2 ^ b.toNat = e at *
  generalize u b d = y at *
  apply Int.eq_of_mul_eq_mul_right (show e ≠ 0 by omega)
  by_cases h0 : n = 0
  · rw [if_pos h0, if_pos h0] at *
    grind
  · rw [if_neg h0, if_neg h0] at *
    grind
theorem g_get (n m : Int) : ∀ (f : Nat) (x : Int), x ≤ (f : Int) → ∀ i (h : i < (g n m x).length), (g n m x)[i].f2 = n ∧ (g n m x)[i].f3 = m ∧ ((g n m x)[i].f0, (g n m x)[i].f1) ∈ pairs ∧ 1 ≤ u (g n m x)[i].f0 (g n m x)[i].f1 ∧ u (g n m x)[i].f0 (g n m x)[i].f1 ≤ x
  | 0, x, hx, i, h => by rw [g_zero (by omega)] at h; exact absurd h (by simp)
  | f + 1, x, hx, i, h => by
    by_cases h0 : 0 < x
    · have hf := fill_is h0
      have key : ∀ (l : List S23) (hl : l = ⟨(fillS x).1, (fillS x).2.1, n, m⟩ :: g n m (x - (fillS x).2.2)) (h : i < l.length), l[i].f2 = n ∧ l[i].f3 = m ∧ (l[i].f0, l[i].f1) ∈ pairs ∧ 1 ≤ u l[i].f0 l[i].f1 ∧ u l[i].f0 l[i].f1 ≤ x := by
        rintro l rfl h
        cases i with
        | zero => exact ⟨rfl, rfl, hf.1, by show 1 ≤ u (fillS x).1 (fillS x).2.1; rw [← hf.2.1]; exact hf.2.2.1, by show u (fillS x).1 (fillS x).2.1 ≤ x; rw [← hf.2.1]; exact hf.2.2.2.1⟩
        | succ i =>
          have := g_get n m f (x - (fillS x).2.2) (by omega) i (by simpa using h)
          simp only [List.getElem_cons_succ]
          exact ⟨this.1, this.2.1, this.2.2.1, this.2.2.2.1, by omega⟩
      exact key _ (g_pos h0) h
    · rw [g_zero (by omega)] at h; exact absurd h (by simp)
theorem g_desc (n m : Int) : ∀ (f : Nat) (x : Int), x ≤ (f : Int) → ∀ i (h : i + 1 < (g n m x).length), u (g n m x)[i + 1].f0 (g n m x)[i + 1].f1 ≤ u (g n m x)[i].f0 (g n m x)[i].f1
  | 0, x, hx, i, h => by rw [g_zero (by omega)] at h; exact absurd h (by simp)
  | f + 1, x, hx, i, h => by
    by_cases h0 : 0 < x
    · have hf := fill_is h0
      have key : ∀ (l : List S23) (hl : l = ⟨(fillS x).1, (fillS x).2.1, n, m⟩ :: g n m (x - (fillS x).2.2)) (h : i + 1 < l.length), u l[i + 1].f0 l[i + 1].f1 ≤ u l[i].f0 l[i].f1 := by
        rintro l rfl h
        have hl : i < (g n m (x - (fillS x).2.2)).length := by simpa using h
        cases i with
        | zero =>
          have := g_get n m f (x - (fillS x).2.2) (by omega) 0 hl
          simp only [List.getElem_cons_succ, List.getElem_cons_zero]
          rw [← hf.2.1]
          exact hf.2.2.2.2 _ _ this.2.2.1 (by omega)
        | succ i =>
          have := g_desc n m f (x - (fillS x).2.2) (by omega) i hl
          simpa only [List.getElem_cons_succ] using this
      exact key _ (g_pos h0) h
    · rw [g_zero (by omega)] at h; exact absurd h (by simp)
/-- The sum of what units are filled with. -/
theorem gsum_eq {K k0 : Nat} (hk0 : 200 ≤ k0) {n m x : Int} (hx : 0 ≤ x) (hx2 : x ≤ 28672) (hn : K4 n m) : ∀ (j : Nat) (y : Int) (i : Nat) (P Q c e : Int), y ≤ (j : Int) → 0 ≤ y → y ≤ x → (g n m x).drop i = g n m y → (g n m x).length ≤ 30000 → Rt P Q → P * (64 * nn n) = (x - y) * mm n m * Q →
    ∀ k, j < k → ∃ P' Q', qx_sum.L3 K (value_Length.f k0) (ratio_Add.f k0) k ((g n m x).map row23, false, (i : Int), c, e, P, Q) = some (.inl (false, c, e, P', Q')) ∧ Rt P' Q' ∧ P' * (64 * nn n) = x * mm n m * Q' := by
  have hnm := K4_nm hn
  have fin : ∀ (i : Nat) (P Q c e : Int), (g n m x).drop i = [] → ∀ k, 0 < k → qx_sum.L3 K (value_Length.f k0) (ratio_Add.f k0) k ((g n m x).map row23, false, (i : Int), c, e, P, Q) = some (.inl (false, c, e, P, Q)) := by
    intro i P Q c e hd k hk
    obtain ⟨k, rfl⟩ : ∃ m, k = m + 1 := ⟨k - 1, by omega⟩
    have := List.drop_eq_nil_iff.1 hd
    simp only [qx_sum.L3, qx_sum.L3.S]
    rw [List.length_map, decide_eq_false (by omega), cond_false]
  intro j
  induction j with
  | zero =>
    intro y i P Q c e hy hy0 hyx hd hlen hR hP k hk
    obtain rfl : y = 0 := by omega
    rw [show g n m 0 = [] from g_zero (by omega)] at hd
    exact ⟨P, Q, fin i P Q c e hd k (by omega), hR, by rw [hP, Int.sub_zero]⟩
  | succ j ih =>
    intro y i P Q c e hy hy0 hyx hd hlen hR hP k hk
    by_cases h0 : 0 < y
    · obtain ⟨k, rfl⟩ : ∃ m, k = m + 1 := ⟨k - 1, by omega⟩
      have hf := fill_is h0
      rw [g_pos h0] at hd
      have hi : i < (g n m x).length := by
        apply Classical.byContradiction
        intro hc
        rw [List.drop_eq_nil_iff.2 (by omega)] at hd
        cases hd
      rw [List.drop_eq_getElem_cons hi] at hd
      injection hd with hv hd
      obtain ⟨p, q, e1, hr, he⟩ := kind_len (k := k0) (by omega) hf.1 hn (by rw [← hf.2.1]; omega)
      rw [← hf.2.1] at he
      obtain ⟨iR, iS⟩ := Rt_I64 hR
      obtain ⟨ir, is⟩ := Rt_I64 hr
      have hstep : qx_sum.L3 K (value_Length.f k0) (ratio_Add.f k0) (k + 1) ((g n m x).map row23, false, (i : Int), c, e, P, Q) =
          (ratio_Add.f k0 P Q p q).bind fun v2 => bif !v2.2.2 == (0 : Int) then some (.inr (false, 0, 0)) else qx_sum.L3 K (value_Length.f k0) (ratio_Add.f k0) k ((g n m x).map row23, false, ((i + 1 : Nat) : Int), c, e, v2.1, v2.2.1) := by
        simp only [qx_sum.L3, qx_sum.L3.S]
        rw [List.length_map, decide_eq_true (by omega), cond_true, if_pos (by omega)]
        obtain ⟨c0, c1, c2, c3⟩ := at_row hi
        rw [Int.toNat_natCast, c0, c1, c2, c3, hv]
        simp only [D.toInt]
        rw [e1, Option.bind_some]
        have hw : IntKind.i64.wrap ((i : Int) + 1) = ((i + 1 : Nat) : Int) := wrI (by omega) (by omega)
        simp only [hw, beq_self_eq_true, Bool.not_true, cond_false]
      rw [hstep, Add_eq (by omega) iR iS ir is, Option.bind_some]
      have hb1 := mul_bd (x := x - (y - (fillS y).2.2)) (y := mm n m) (A := 28672) (B := 4) (by omega) (by omega)
      obtain ⟨p', q', e2, hr', he'⟩ := reduce (n := (x - (y - (fillS y).2.2)) * mm n m) (d := 64 * nn n) (by omega) (by omega) (by omega)
      have hQ := hR.1
      have hq := hr.1
      have hadd : addS P Q p q = (p', q', 0) := by
        unfold addS
        rw [if_pos ⟨hR, hr⟩]
        refine ofS_is (by have := Int.mul_pos (show 0 < Q by omega) (show 0 < q by omega); omega) hr' ?_
        generalize (fillS y).2.2 = uy at *
        generalize nn n = N at *
        generalize mm n m = M at *
        have hD0 : 64 * N ≠ 0 := by omega
        apply Int.eq_of_mul_eq_mul_right hD0
        grind
      rw [hadd]
      exact ih (y - (fillS y).2.2) (i + 1) p' q' c e (by omega) (by omega) (by omega) hd hlen hr' he' k (by omega)
    · obtain rfl : y = 0 := by omega
      rw [show g n m 0 = [] from g_zero (by omega)] at hd
      exact ⟨P, Q, fin i P Q c e hd k (by omega), hR, by rw [hP, Int.sub_zero]⟩
theorem Rt01 : Rt 0 1 := ⟨by decide, by decide, by decide, by decide⟩
theorem gsum {k0 : Nat} (hk0 : 40000 ≤ k0) {n m x : Int} (hx : 0 ≤ x) (hx2 : x ≤ 28672) (hn : K4 n m) : ∃ P Q, qx_sum.f k0 ((g n m x).map row23) = some (P, Q, true) ∧ Rt P Q ∧ P * (64 * nn n) = x * mm n m * Q := by
  have hlen := g_len n m 28672 x (by omega)
  obtain ⟨P, Q, h1, h2, h3⟩ := gsum_eq (K := k0) (k0 := k0) (by omega) hx hx2 hn 28672 x 0 0 1 0 0 (by omega) hx (by omega) rfl (by omega) Rt01 (by rw [Int.sub_self]; simp) k0 (by omega)
  refine ⟨P, Q, ?_, h2, h3⟩
  unfold qx_sum.f qx_sum.t
  rw [show ((0 : Nat) : Int) = 0 from rfl] at h1
  rw [h1]
  rfl
/-- What a length is split into: nothing, or the units of it under a kind. -/
theorem spl_cases {p q : Int} (hp : 0 < p) (hq : p ≤ 64 * q) (hr : Rt p q) : spl p q = ([], 41) ∨ ∃ n m x, K4 n m ∧ 0 < x ∧ x ≤ 28672 ∧ spl p q = (g n m x, 0) ∧ p * (64 * nn n) = x * mm n m * q := by
  have hq0 : 0 < q := by have := hr.1; omega
  have key : ∀ n m, K4 n m → 0 < uq p q n m → uq p q n m ≤ 28672 ∧ p * (64 * nn n) = uq p q n m * mm n m * q := by
    intro n m hn h
    have hb := uq_bd (p := p) (q := q) (n := n) (m := m) hp hq hq0 (by rcases hn with ⟨rfl, rfl⟩ | ⟨rfl, rfl⟩ | ⟨rfl, rfl⟩ | ⟨rfl, rfl⟩ <;> decide) (by rcases hn with ⟨rfl, rfl⟩ | ⟨rfl, rfl⟩ | ⟨rfl, rfl⟩ | ⟨rfl, rfl⟩ <;> decide)
    refine ⟨hb.2, ?_⟩
    unfold uq at h ⊢
    unfold nn mm
    have hkn : n > 0 ∨ n = 0 := by rcases hn with ⟨rfl, rfl⟩ | ⟨rfl, rfl⟩ | ⟨rfl, rfl⟩ | ⟨rfl, rfl⟩ <;> decide
    rcases hkn with h1 | h1
    · have en : (if n = 0 then (1 : Int) else n) = n := if_neg (by omega)
      have em : (if n = 0 then (1 : Int) else m) = m := if_neg (by omega)
      simp only [en, em, if_pos h1] at h ⊢
      by_cases h2 : (p * 64 * n) % (q * m) = 0
      · simp only [if_pos h2] at h ⊢
        have := Int.mul_ediv_cancel' (Int.dvd_of_emod_eq_zero h2)
        grind
      · simp only [if_neg h2] at h; omega
    · have h0 : ¬ n > 0 := by omega
      simp only [if_neg h0, if_pos h1] at h ⊢
      by_cases h2 : (p * 64) % q = 0
      · simp only [if_pos h2] at h ⊢
        have := Int.mul_ediv_cancel' (Int.dvd_of_emod_eq_zero h2)
        grind
      · simp only [if_neg h2] at h; omega
  unfold spl
  by_cases h1 : 0 < uq p q 0 0
  · have := key 0 0 (.inl ⟨rfl, rfl⟩) h1
    rw [if_pos h1]; exact .inr ⟨0, 0, _, .inl ⟨rfl, rfl⟩, h1, this.1, rfl, this.2⟩
  rw [if_neg h1]
  by_cases h2 : 0 < uq p q 3 2
  · have := key 3 2 (.inr (.inl ⟨rfl, rfl⟩)) h2
    rw [if_pos h2]; exact .inr ⟨3, 2, _, .inr (.inl ⟨rfl, rfl⟩), h2, this.1, rfl, this.2⟩
  rw [if_neg h2]
  by_cases h3 : 0 < uq p q 5 4
  · have := key 5 4 (.inr (.inr (.inl ⟨rfl, rfl⟩))) h3
    rw [if_pos h3]; exact .inr ⟨5, 4, _, .inr (.inr (.inl ⟨rfl, rfl⟩)), h3, this.1, rfl, this.2⟩
  rw [if_neg h3]
  by_cases h4 : 0 < uq p q 7 4
  · have := key 7 4 (.inr (.inr (.inr ⟨rfl, rfl⟩))) h4
    rw [if_pos h4]; exact .inr ⟨7, 4, _, .inr (.inr (.inr ⟨rfl, rfl⟩)), h4, this.1, rfl, this.2⟩
  rw [if_neg h4]
  exact .inl rfl
/-- A length that splits: of units under one of the kinds. -/
theorem spl_some {p q n m x : Int} (hn : K4 n m) (hx : 0 < x) (hr : Rt p q) (h : p * (64 * nn n) = x * mm n m * q) : (spl p q).2 = 0 := by
  have hq0 : 0 < q := by have := hr.1; omega
  have hux : uq p q n m = x := by
    unfold uq
    unfold nn mm at h
    rcases hn with ⟨rfl, rfl⟩ | ⟨rfl, rfl⟩ | ⟨rfl, rfl⟩ | ⟨rfl, rfl⟩
    · rw [if_neg (by decide)]
      have e : p * 64 = x * q := by simpa using h
      rw [e, Int.mul_emod_left, if_pos rfl, Int.mul_ediv_cancel _ (by omega)]
    all_goals
      simp only [show ((3 : Int) = 0) = False by decide, show ((5 : Int) = 0) = False by decide, show ((7 : Int) = 0) = False by decide, if_false] at h
      rw [if_pos (by decide)]
    · have e : p * 64 * 3 = x * (q * 2) := by grind
      rw [e, Int.mul_emod_left, if_pos rfl, Int.mul_ediv_cancel _ (by omega)]
    · have e : p * 64 * 5 = x * (q * 4) := by grind
      rw [e, Int.mul_emod_left, if_pos rfl, Int.mul_ediv_cancel _ (by omega)]
    · have e : p * 64 * 7 = x * (q * 4) := by grind
      rw [e, Int.mul_emod_left, if_pos rfl, Int.mul_ediv_cancel _ (by omega)]
  unfold spl
  by_cases h1 : 0 < uq p q 0 0
  · rw [if_pos h1]
  rw [if_neg h1]
  by_cases h2 : 0 < uq p q 3 2
  · rw [if_pos h2]
  rw [if_neg h2]
  by_cases h3 : 0 < uq p q 5 4
  · rw [if_pos h3]
  rw [if_neg h3]
  by_cases h4 : 0 < uq p q 7 4
  · rw [if_pos h4]
  exfalso
  rcases hn with ⟨rfl, rfl⟩ | ⟨rfl, rfl⟩ | ⟨rfl, rfl⟩ | ⟨rfl, rfl⟩ <;> omega
end Go.Proofs.YtajbnfidcpfonaaDoor.Pure
