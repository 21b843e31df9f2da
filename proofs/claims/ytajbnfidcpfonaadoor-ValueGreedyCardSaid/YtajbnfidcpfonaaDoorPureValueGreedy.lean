/- The first part is the longest plain value that is not too long, and the rest is split alike; no condition. -/
import Derived.Test.YtajbnfidcpfonaaDoorV4
import Derived.Test.YtajbnfidcpfonaaDoorPureSplit
import Derived.Test.YtajbnfidcpfonaaDoorPureBaseR
set_option linter.unusedVariables false
set_option linter.unusedSimpArgs false
namespace Go.Proofs.YtajbnfidcpfonaaDoor.Pure
open Go.RowKit Go.Proofs.Qx Go.Proofs.YtajbnfidcpfonaaDoor.M Go.Proofs.YtajbnfidcpfonaaDoorW.PrintWords Go.Proofs.YtajbnfidcpfonaaDoorW.PrintLast Go.Proofs.YtajbnfidcpfonaaDoorW.PrintMore

theorem examples_kg : ∀ n, partitalaw04_examples.f (200 + n) = some true
  | 0 => examples_ok
  | n + 1 => partitalaw04_examples.mono _ _ (examples_kg n)
theorem uq0 {P Q M : Int} (hQ : 0 < Q) (h : P * 64 = M * Q) : uq P Q 0 0 = M := by
  unfold uq
  rw [if_neg (by decide), h, Int.mul_emod_left, if_pos rfl, Int.mul_ediv_cancel _ (by omega)]
theorem Rt64 : Rt 64 1 := ⟨by decide, by decide, by decide, by decide⟩
theorem u_len {b d p q : Int} (h : (b, d) ∈ pairs) (he : p * (dDen d * 2 ^ b.toNat) = dNum d * q) (hu : u b d ≠ 0) : p * 64 = u b d * q := by
  have hb := l_bd (VR0 h)
  simp only [lnum, lden, if_true] at hb
  obtain ⟨h1, _, h3, _⟩ := hb
  unfold u at hu ⊢
  generalize dDen d * 2 ^ b.toNat = e at *
  by_cases hm : (64 * dNum d) % e = 0
  · rw [if_pos hm]
    have h5 : e * ((64 * dNum d) / e) = 64 * dNum d := Int.mul_ediv_cancel' (Int.dvd_of_emod_eq_zero hm)
    generalize (64 * dNum d) / e = y at *
    apply Int.eq_of_mul_eq_mul_right (show e ≠ 0 by omega)
    grind
  · rw [if_neg hm] at hu; exact absurd rfl hu
theorem u_int {b d p q P' : Int} (h : (b, d) ∈ pairs) (hr : Rt p q) (hu : value_units.f p q 0 0 0 0 = some (u b d)) (h0 : 0 ≤ p) (he : P' * q = p * 64) : u b d * q = p * 64 := by
  rw [units_eq hr h0 (.inl rfl) (.inl rfl)] at hu
  simp only [Option.some.injEq] at hu
  rw [← hu, uq0 (M := P') (by have := hr.1; omega) he.symm, he]
theorem at_row {l : List S23} {i : Nat} (h : i < l.length) : D.at (l.map row23) i 0 = .int l[i].f0 ∧ D.at (l.map row23) i 1 = .int l[i].f1 ∧ D.at (l.map row23) i 2 = .int l[i].f2 ∧ D.at (l.map row23) i 3 = .int l[i].f3 := by
  have : ∀ j, D.at (l.map row23) i j = (row23 l[i]).getD j (.int 0) := by
    intro j
    simp [D.at, List.getD_eq_getElem?_getD, List.getElem?_map, List.getElem?_eq_getElem h]
  refine ⟨this 0, this 1, this 2, this 3⟩

section
variable {K : Nat} {f10 : Option Bool} {f15 : Int → Int → Int → Int → Option (Int × Int)} {f18 : Int → Int → Option Int} {f19 : Int → Int → Option (List (List D) × Int)} {f21 : Int → Int → Option (Int × Int × Int)} {f25 : Int → Int → Int → Int → Option (Int × Int × Int)}
theorem greedy13 {k0 : Nat} (hk0 : 200 ≤ k0) {P Q p1 q1 M um : Int} (hR : Rt P Q) (hr1 : Rt p1 q1) (hM : P * 64 = M * Q) (hm : p1 * 64 = um * q1) (hmax : ∀ b d, (b, d) ∈ pairs → u b d ≤ M → u b d ≤ um)
    {b d : Int} (h : (b, d) ∈ pairs) (x0 x1 : Bool) (l : List (List D)) (k : Nat) :
    qx_greedy.L13 K f10 (qx_length.f k0) f18 f19 f21 (ratio_Compare.f k0) (ratio_Mul.f k0) f25 (k + 1) (x0, x1, l, b, d, P, Q, p1, q1) =
    qx_greedy.L13 K f10 (qx_length.f k0) f18 f19 f21 (ratio_Compare.f k0) (ratio_Mul.f k0) f25 k (x0, x1, l, b, d + 1, P, Q, p1, q1) := by
  obtain ⟨p, q, e, hr, he, hu⟩ := plain_len (k := k0) (by omega) h
  have hb := of_pairs h
  obtain ⟨ip, iq⟩ := Rt_I64 hr
  obtain ⟨iP, iQ⟩ := Rt_I64 hR
  obtain ⟨ip1, iq1⟩ := Rt_I64 hr1
  have hp0 : 0 ≤ p := by
    have hb := l_bd (VR0 h)
    simp only [lnum, lden, if_true] at hb
    have := hr.1
    have h5 : 0 ≤ p * (dDen d * 2 ^ b.toNat) := by rw [he]; exact Int.mul_nonneg (by omega) (by omega)
    exact Int.nonneg_of_mul_nonneg_left h5 (by omega)
  simp only [qx_greedy.L13, qx_greedy.L13.S]
  rw [decide_eq_true (by omega), cond_true, qx_length.f, qx_length.t, e, Option.bind_some, Option.bind_some]
  simp only []
  rw [Mul_eq (by omega) ip iq ⟨by decide, by decide⟩ ⟨by decide, by decide⟩, Option.bind_some]
  have hw : IntKind.i64.wrap (d + 1) = d + 1 := wrI (by omega) (by omega)
  rw [hw]
  have hmul : mulS p q 64 1 = ofS (p * 64) (q * 1) := by unfold mulS; rw [if_pos ⟨hr, Rt64⟩]
  by_cases h1 : (mulS p q 64 1).2.1 = 1
  · rw [h1]
    simp only [beq_self_eq_true, cond_true]
    have hq := hr.1
    have hint : u b d * q = p * 64 := by
      rw [hmul] at h1
      rcases ofS_spec (p * 64) (den := q * 1) (by omega) with ⟨p', q', h2, h3, h4⟩ | ⟨h2, _⟩
      · rw [h2] at h1
        simp only at h1
        subst h1
        exact u_int (P' := p') h hr hu hp0 (by simpa using h4)
      · rw [h2] at h1; exact absurd h1 (by decide)
    rw [Compare_eq (by omega) ip iq iP iQ, Option.bind_some]
    by_cases h2 : cmpS p q P Q ≤ 0
    · rw [decide_eq_true h2, cond_true, Compare_eq (by omega) ip iq ip1 iq1, Option.bind_some]
      have hQ := hR.1
      have hq1 := hr1.1
      have hle : p * Q ≤ P * q := by
        unfold cmpS at h2
        rw [if_pos ⟨hr, hR⟩] at h2
        by_cases h3 : p * Q < P * q
        · omega
        · rw [if_neg h3] at h2
          by_cases h4 : p * Q > P * q
          · rw [if_pos h4] at h2; omega
          · omega
      have hqQ : 0 < q * Q := Int.mul_pos (by omega) (by omega)
      have huM : u b d ≤ M := by
        have e1 : u b d * (q * Q) ≤ M * (q * Q) := by
          have a1 : u b d * (q * Q) = 64 * (p * Q) := by grind
          have a2 : M * (q * Q) = 64 * (P * q) := by grind
          omega
        exact Int.le_of_mul_le_mul_right e1 hqQ
      have hum := hmax b d h huM
      have hqq : 0 < q * q1 := Int.mul_pos (by omega) (by omega)
      have hle2 : p * q1 ≤ p1 * q := by
        have e1 : u b d * (q * q1) ≤ um * (q * q1) := Int.mul_le_mul_of_nonneg_right hum (by omega)
        have a1 : u b d * (q * q1) = 64 * (p * q1) := by grind
        have a2 : um * (q * q1) = 64 * (p1 * q) := by grind
        omega
      have hc : ¬ cmpS p q p1 q1 > 0 := by
        unfold cmpS
        rw [if_pos ⟨hr, hr1⟩]
        by_cases h3 : p * q1 < p1 * q
        · rw [if_pos h3]; decide
        · rw [if_neg h3, if_neg (by omega)]; decide
      rw [decide_eq_false hc, cond_false]
    · rw [decide_eq_false h2, cond_false]
  · rw [show ((mulS p q 64 1).2.1 == 1) = false by simpa using h1, cond_false]
theorem greedy10 {k0 : Nat} (hk0 : 200 ≤ k0) {P Q p1 q1 M um : Int} (hR : Rt P Q) (hr1 : Rt p1 q1) (hM : P * 64 = M * Q) (hm : p1 * 64 = um * q1) (hmax : ∀ b d, (b, d) ∈ pairs → u b d ≤ M → u b d ≤ um)
    (x0 x1 : Bool) (l : List (List D)) (hK : 10 ≤ K) : ∀ (j : Nat) (b : Int) (k : Nat), b + (j : Int) = 7 → 0 ≤ b → j < k →
    qx_greedy.L10 K f10 (qx_length.f k0) f18 f19 f21 (ratio_Compare.f k0) (ratio_Mul.f k0) f25 k (x0, x1, l, b, P, Q, p1, q1) = some (.inl (x0, x1, l, P, Q, p1, q1)) := by
  intro j
  induction j with
  | zero =>
    intro b k hb h0 hk
    obtain ⟨k, rfl⟩ : ∃ m, k = m + 1 := ⟨k - 1, by omega⟩
    simp only [qx_greedy.L10, qx_greedy.L10.S]
    rw [decide_eq_false (by omega), cond_false]
  | succ j ih =>
    intro b k hb h0 hk
    obtain ⟨k, rfl⟩ : ∃ m, k = m + 1 := ⟨k - 1, by omega⟩
    have h13 : qx_greedy.L13 K f10 (qx_length.f k0) f18 f19 f21 (ratio_Compare.f k0) (ratio_Mul.f k0) f25 K (x0, x1, l, b, 0, P, Q, p1, q1) = some (.inl (x0, x1, l, b, 3, P, Q, p1, q1)) := by
      have hmem : ∀ d : Int, 0 ≤ d ∧ d < 3 → (b, d) ∈ pairs := fun d hd => mem_pairs ⟨h0, by omega⟩ hd
      have aux : ∀ K' : Nat, K' = K → qx_greedy.L13 K f10 (qx_length.f k0) f18 f19 f21 (ratio_Compare.f k0) (ratio_Mul.f k0) f25 K' (x0, x1, l, b, 0, P, Q, p1, q1) = some (.inl (x0, x1, l, b, 3, P, Q, p1, q1)) := by
        intro K' hK'
        obtain ⟨K', rfl⟩ : ∃ m, K' = m + 1 + 1 + 1 + 1 := ⟨K' - 4, by omega⟩
        rw [greedy13 hk0 hR hr1 hM hm hmax (hmem 0 (by decide)), show (0 : Int) + 1 = 1 from rfl, greedy13 hk0 hR hr1 hM hm hmax (hmem 1 (by decide)), show (1 : Int) + 1 = 2 from rfl, greedy13 hk0 hR hr1 hM hm hmax (hmem 2 (by decide)), show (2 : Int) + 1 = 3 from rfl]
        simp only [qx_greedy.L13, qx_greedy.L13.S]
        rw [decide_eq_false (by decide), cond_false]
      exact aux K rfl
    have hstep : qx_greedy.L10 K f10 (qx_length.f k0) f18 f19 f21 (ratio_Compare.f k0) (ratio_Mul.f k0) f25 (k + 1) (x0, x1, l, b, P, Q, p1, q1) = qx_greedy.L10 K f10 (qx_length.f k0) f18 f19 f21 (ratio_Compare.f k0) (ratio_Mul.f k0) f25 k (x0, x1, l, b + 1, P, Q, p1, q1) := by
      simp only [qx_greedy.L10, qx_greedy.L10.S]
      rw [decide_eq_true (by omega), cond_true, h13, Option.bind_some, Sum.elim_inl]
      simp only []
      rw [wrI (by omega) (by omega)]
    rw [hstep]
    exact ih (b + 1) k (by omega) (by omega) (by omega)
theorem greedy26 {f22 : Int → Int → Int → Int → Option Int} {f24 : Int → Int → Int → Int → Option (Int × Int × Int)} (v : S23) (l : List S23) (hl : l.length ≤ 100000) (x0 x1 : Bool) : ∀ (j i k : Nat), i + j = l.length → j < k →
    qx_greedy.L26 K f10 f15 f18 f19 f21 f22 f24 f25 k (x0, x1, (v :: l).map row23, l.map row23, (i : Int)) = some (.inl (x0, x1)) := by
  intro j
  induction j with
  | zero =>
    intro i k hi hk
    obtain ⟨k, rfl⟩ : ∃ m, k = m + 1 := ⟨k - 1, by omega⟩
    simp only [qx_greedy.L26, qx_greedy.L26.S]
    rw [List.length_map, decide_eq_false (by omega), cond_false]
  | succ j ih =>
    intro i k hi hk
    obtain ⟨k, rfl⟩ : ∃ m, k = m + 1 := ⟨k - 1, by omega⟩
    have hw : IntKind.i64.wrap ((i : Int) + 1) = ((i + 1 : Nat) : Int) := wrI (by omega) (by omega)
    have hstep : qx_greedy.L26 K f10 f15 f18 f19 f21 f22 f24 f25 (k + 1) (x0, x1, (v :: l).map row23, l.map row23, (i : Int)) = qx_greedy.L26 K f10 f15 f18 f19 f21 f22 f24 f25 k (x0, x1, (v :: l).map row23, l.map row23, ((i + 1 : Nat) : Int)) := by
      simp only [qx_greedy.L26, qx_greedy.L26.S]
      have hi1 : i < l.length := by omega
      have hi2 : i + 1 < (v :: l).length := by rw [List.length_cons]; omega
      rw [List.length_map, List.length_map, decide_eq_true (by omega), cond_true, if_pos (by omega), hw, if_pos (by omega)]
      obtain ⟨a0, a1, a2, a3⟩ := at_row hi1
      obtain ⟨b0, b1, b2, b3⟩ := at_row hi2
      rw [Int.toNat_natCast, Int.toNat_natCast, a0, a1, a2, a3, b0, b1, b2, b3]
      simp only [List.getElem_cons_succ, beq_self_eq_true, Bool.and_self, Bool.not_true, cond_false]
    rw [hstep]
    exact ih (i + 1) k (by omega) (by omega)
end

theorem ValueGreedy : partitalaw04_ValueGreedy.Pure := by
  intro a0 hw
  have ha := wf64 hw
  suffices H : ∀ k : Nat, 50000 ≤ k → partitalaw04_examples.f k = some true → qx_greedy.f k a0 = some true from ⟨200 + 50000, H _ (by omega) (examples_kg _)⟩
  intro k hk hex
  obtain ⟨r, er, r0, r1⟩ := pickR (n := 4096) ha (by decide) (by decide)
  obtain ⟨P, Q, e1, hR, hP⟩ := reduce (n := 1 + r) (d := 64) (by decide) (by omega) (by decide)
  have hQ := hR.1
  generalize hM : 1 + r = M at e1 hP
  have hP0 : 0 < P := by
    have : 0 < P * 64 := by rw [hP]; exact Int.mul_pos (by omega) (by omega)
    omega
  have hPQ : P ≤ 64 * Q := by
    have : M * Q ≤ 4096 * Q := Int.mul_le_mul_of_nonneg_right (by omega) (by omega)
    omega
  have hM0 : 0 < M := by omega
  have hsp : spl P Q = (g 0 0 M, 0) := by unfold spl; rw [uq0 (by omega) hP, if_pos hM0]
  have hf := fill_is hM0
  obtain ⟨p1, q1, el, hr1, he1, hu1⟩ := plain_len (k := k) (by omega) hf.1
  have hm1 := u_len hf.1 he1 (by rw [← hf.2.1]; omega)
  rw [← hf.2.1] at hm1
  have hlen := g_len 0 0 4096 (M - (fillS M).2.2) (by omega)
  unfold qx_greedy.f qx_greedy.t
  rw [hex, Option.bind_some, Bool.not_true, cond_false, er, Option.bind_some, wrI (by omega) (by omega), hM,
    Of_eq (by omega) ⟨by omega, by omega⟩ ⟨by decide, by decide⟩, e1, Option.bind_some]
  simp only []
  rw [split_eq (by omega) hR hP0 hPQ, hsp, Option.map_some, Option.bind_some, g_pos hM0]
  generalize hrest : g 0 0 (M - (fillS M).2.2) = rest at hlen
  have hl1 : ((⟨(fillS M).1, (fillS M).2.1, 0, 0⟩ :: rest : List S23).map row23).length = rest.length + 1 := by simp
  simp only [hl1]
  rw [show (!((0 : Int) == 0)) = false from rfl, cond_false, show (((rest.length + 1 : Nat) : Int) == 0) = false by rw [beq_eq_false_iff_ne]; omega, cond_false, if_pos (by omega)]
  obtain ⟨c0, c1, c2, c3⟩ := at_row (l := (⟨(fillS M).1, (fillS M).2.1, 0, 0⟩ :: rest : List S23)) (i := 0) (by simp)
  rw [show (0 : Int).toNat = 0 from rfl, c0, c1, c2, c3]
  simp only [List.getElem_cons_zero, D.toInt]
  rw [qx_length.f, qx_length.t, el, Option.bind_some, Option.bind_some]
  simp only []
  rw [greedy10 (by omega) hR hr1 hP hm1 hf.2.2.2.2 _ _ _ (by omega) 7 0 k (by decide) (by decide) (by omega), Option.bind_some, Sum.elim_inl]
  simp only []
  obtain ⟨iP, iQ⟩ := Rt_I64 hR
  obtain ⟨ip1, iq1⟩ := Rt_I64 hr1
  rw [Sub_eq (by omega) iP iQ ip1 iq1, Option.bind_some]
  have hq1 := hr1.1
  obtain ⟨P2, Q2, e2, hR2, hP2⟩ := reduce (n := M - (fillS M).2.2) (d := 64) (by decide) (by omega) (by decide)
  have hQ2 := hR2.1
  have hsub : subS P Q p1 q1 = (P2, Q2, 0) := by
    unfold subS
    rw [if_pos ⟨hR, hr1⟩]
    refine ofS_is (by have := Int.mul_pos (show 0 < Q by omega) (show 0 < q1 by omega); omega) hR2 ?_
    apply Int.eq_of_mul_eq_mul_right (show (64 : Int) ≠ 0 by decide)
    grind
  rw [hsub]
  simp only []
  by_cases hz : M - (fillS M).2.2 = 0
  · have : P2 = 0 := by rw [hz] at hP2; omega
    rw [this, show ((0 : Int) == 0) = true from rfl, cond_true, cond_true]
    rw [g_zero (by omega)] at hrest
    subst hrest
    rfl
  · have hx2 : 0 < M - (fillS M).2.2 := by omega
    have hP20 : 0 < P2 := by
      have : 0 < P2 * 64 := by rw [hP2]; exact Int.mul_pos (by omega) (by omega)
      omega
    have hPQ2 : P2 ≤ 64 * Q2 := by
      have : (M - (fillS M).2.2) * Q2 ≤ 4096 * Q2 := Int.mul_le_mul_of_nonneg_right (by omega) (by omega)
      omega
    have hsp2 : spl P2 Q2 = (g 0 0 (M - (fillS M).2.2), 0) := by unfold spl; rw [uq0 (by omega) hP2, if_pos hx2]
    rw [show ((P2 : Int) == 0) = false by rw [beq_eq_false_iff_ne]; omega, cond_false, split_eq (by omega) hR2 hP20 hPQ2, hsp2, Option.map_some, Option.bind_some, hrest]
    simp only [List.length_map, List.length_cons]
    rw [show (!((0 : Int) == 0)) = false from rfl, cond_false, wrI (by omega) (by omega), show (!(((rest.length : Nat) : Int) == (((rest.length + 1 : Nat) : Int) - 1))) = false by
      rw [show (((rest.length + 1 : Nat) : Int) - 1) = (rest.length : Int) by omega, beq_self_eq_true]; rfl, cond_false]
    have h26 := greedy26 (K := k) (f10 := some true) (f15 := qx_length.f k) (f18 := partitalaw04_pick.f) (f19 := fun a0 a1 => (value_Split.f k a0 a1).map fun r => (r.1.map row23, r.2)) (f21 := ratio_Of.f k) (f22 := ratio_Compare.f k) (f24 := ratio_Mul.f k) (f25 := ratio_Sub.f k) (⟨(fillS M).1, (fillS M).2.1, 0, 0⟩ : S23) rest (by omega) false true rest.length 0 k (by omega) (by omega)
    rw [show ((0 : Nat) : Int) = 0 from rfl] at h26
    rw [hex] at *
    rw [h26]
    rfl
end Go.Proofs.YtajbnfidcpfonaaDoor.Pure
