/- A length that splits is as long as its parts, of one kind, from longer to shorter; no condition. -/
import Derived.Test.YtajbnfidcpfonaaDoorV3
import Derived.Test.YtajbnfidcpfonaaDoorPureSplitFind
set_option linter.unusedVariables false
set_option linter.unusedSimpArgs false
namespace Go.Proofs.YtajbnfidcpfonaaDoor.Pure
open Go.RowKit Go.Proofs.Qx Go.Proofs.YtajbnfidcpfonaaDoor.M Go.Proofs.YtajbnfidcpfonaaDoorW.PrintWords Go.Proofs.YtajbnfidcpfonaaDoorW.PrintLast Go.Proofs.YtajbnfidcpfonaaDoorW.PrintMore

theorem examples_ks : ∀ n, partitalaw04_examples.f (200 + n) = some true
  | 0 => examples_ok
  | n + 1 => partitalaw04_examples.mono _ _ (examples_ks n)
theorem split_no {k : Nat} (hk : 160 ≤ k) {p q : Int} (hp : I64 p) (hq : I64 q) (h : ¬ Rt p q ∨ p ≤ 0 ∨ cmpS p q 64 1 > 0) : value_Split.f k p q = some ([], 41) := by
  obtain ⟨k, rfl⟩ : ∃ j, k = j + 1 := ⟨k - 1, by omega⟩
  unfold value_Split.f
  rw [right_eq (by omega) hp hq, Option.bind_some]
  by_cases hr : Rt p q
  · rw [if_pos (decide_eq_true hr)]
    by_cases h0 : p ≤ 0
    · rw [if_pos h0, value_Split.j0, if_pos rfl]
    · rw [if_neg h0, Compare_eq (by omega) hp hq ⟨by decide, by decide⟩ ⟨by decide, by decide⟩, Option.bind_some, value_Split.j0, if_pos (by
        rcases h with h | h | h
        · exact absurd hr h
        · exact absurd h h0
        · exact decide_eq_true h)]
  · rw [if_neg (by rw [decide_eq_false hr]; decide), value_Split.j0, if_pos rfl]
theorem gsum_is {k : Nat} (hk : 40000 ≤ k) {n m x P Q : Int} (hx : 0 ≤ x) (hx2 : x ≤ 28672) (hn : K4 n m) (hR : Rt P Q) (h : P * (64 * nn n) = x * mm n m * Q) : qx_sum.f k ((g n m x).map row23) = some (P, Q, true) := by
  obtain ⟨P', Q', e, hR', h'⟩ := gsum hk hx hx2 hn
  have hnm := K4_nm hn
  obtain ⟨rfl, rfl⟩ := Rt_unique hR hR' (by
    have hQ := hR.1
    have hQ' := hR'.1
    generalize nn n = N at *
    generalize mm n m = M at *
    apply Int.eq_of_mul_eq_mul_right (show 64 * N ≠ 0 by omega)
    grind)
  exact e

section
variable {K : Nat} {f10 : Option Bool} {f11 : Int → Int → Option (Int × Int × Int × Int × Bool)} {f18 : Int → Int → Option Int} {f19 : Int → Int → Option (List (List D) × Int)} {f20 : List (List D) → Option (Int × Int × Bool)} {f21 : Int → Int → Option (Int × Int × Int)}
theorem splits13 {k0 : Nat} (hk0 : 200 ≤ k0) {n m X : Int} (hX : X ≤ 28672) (hn : K4 n m) (x0 x1 : Bool) (x3 : Int) (x4 : Bool) (x6 x7 x8 x9 x10 x11 x12 x13 x14 x15 x16 x17 x18 x19 x20 x21 x22 x23 : Int) : ∀ (j i k : Nat), i + j = (g n m X).length → j < k →
    qx_splits.L13 K f10 f11 (value_Right.f k0) (qx_length.f k0) f18 f19 f20 f21 (ratio_Compare.f k0) k (x0, x1, (g n m X).map row23, x3, x4, (i : Int), x6, x7, x8, x9, x10, x11, x12, x13, x14, x15, x16, x17, x18, x19, x20, x21, x22, x23) =
      some (.inl (x0, x1, (g n m X).map row23, x3, x4, ((g n m X).length : Int), x6, x7, x8, x9, x10, x11, x12, x13, x14, x15, x16, x17, x18, x19, x20, x21, x22, x23)) := by
  have hlen := g_len n m 28672 X (by omega)
  have hget := g_get n m 28672 X (by omega)
  have hdesc := g_desc n m 28672 X (by omega)
  have hnm := K4_nm hn
  intro j
  induction j with
  | zero =>
    intro i k hi hk
    obtain ⟨k, rfl⟩ : ∃ m, k = m + 1 := ⟨k - 1, by omega⟩
    simp only [qx_splits.L13, qx_splits.L13.S]
    rw [List.length_map, decide_eq_false (by omega), cond_false, show (i : Int) = ((g n m X).length : Int) by omega]
  | succ j ih =>
    intro i k hi hk
    obtain ⟨k, rfl⟩ : ∃ m, k = m + 1 := ⟨k - 1, by omega⟩
    have hil : i < (g n m X).length := by omega
    have h0l : 0 < (g n m X).length := by omega
    obtain ⟨a2, a3, ap, au, _⟩ := hget i hil
    obtain ⟨b2, b3, _⟩ := hget 0 h0l
    have hw : IntKind.i64.wrap ((i : Int) + 1) = ((i + 1 : Nat) : Int) := wrI (by omega) (by omega)
    refine Eq.trans ?_ (ih (i + 1) k (by omega) (by omega))
    simp only [qx_splits.L13, qx_splits.L13.S]
    have hc1 : (0 : Int) ≤ (i : Int) ∧ (i : Int) < (((g n m X).map row23).length : Int) := by rw [List.length_map]; exact ⟨by omega, by omega⟩
    have hc0 : (0 : Int) ≤ (0 : Int) ∧ (0 : Int) < (((g n m X).map row23).length : Int) := by rw [List.length_map]; exact ⟨by omega, by omega⟩
    rw [decide_eq_true hc1.2, cond_true]
    simp only [if_pos hc1, if_pos hc0]
    obtain ⟨c0, c1, c2, c3⟩ := at_row hil
    obtain ⟨d0, d1, d2, d3⟩ := at_row h0l
    rw [Int.toNat_natCast, show (0 : Int).toNat = 0 from rfl]
    simp only [c0, c1, c2, c3, d0, d1, d2, d3, D.toInt, a2, a3, b2, b3, beq_self_eq_true, Bool.not_true, cond_false]
    rw [vright_eq (by omega), decide_eq_true (VRk ap hn), Option.bind_some, Bool.not_true, cond_false, hw]
    by_cases hi0 : i = 0
    · rw [decide_eq_false (by omega), cond_false]
    · obtain ⟨i, rfl⟩ : ∃ m, i = m + 1 := ⟨i - 1, by omega⟩
      have hw2 : IntKind.i64.wrap (((i + 1 : Nat) : Int) - 1) = (i : Int) := by rw [show ((i + 1 : Nat) : Int) - 1 = (i : Int) by omega]; exact wrI (by omega) (by omega)
      have hpl : i < (g n m X).length := by omega
      obtain ⟨e2, e3, ep, eu, _⟩ := hget i hpl
      obtain ⟨g0, g1, g2, g3⟩ := at_row hpl
      have hd := hdesc i hil
      obtain ⟨p, q, l1, r1, q1⟩ := kind_len (k := k0) (by omega) ep hn (by omega)
      obtain ⟨p', q', l2, r2, q2⟩ := kind_len (k := k0) (by omega) ap hn (by omega)
      have hc2 : (0 : Int) ≤ (i : Int) ∧ (i : Int) < (((g n m X).map row23).length : Int) := by rw [List.length_map]; exact ⟨by omega, by omega⟩
      obtain ⟨ip, iq⟩ := Rt_I64 r1
      obtain ⟨ip', iq'⟩ := Rt_I64 r2
      rw [decide_eq_true (by omega), cond_true, hw2, if_pos hc2, Int.toNat_natCast]
      simp only [g0, g1, g2, g3, D.toInt, e2, e3]
      simp only [qx_length.f, qx_length.t, l1, l2, Option.bind_some]
      rw [Compare_eq (by omega) ip iq ip' iq', Option.bind_some]
      have hq := r1.1
      have hq' := r2.1
      have hle : p' * q ≤ p * q' := by
        generalize u (g n m X)[i].f0 (g n m X)[i].f1 = U at *
        generalize u (g n m X)[i + 1].f0 (g n m X)[i + 1].f1 = U' at *
        generalize nn n = N at *
        generalize mm n m = M at *
        have e1 : p' * q * (64 * N) = U' * (M * (q * q')) := by grind
        have e2 : p * q' * (64 * N) = U * (M * (q * q')) := by grind
        have hpos : 0 ≤ M * (q * q') := Int.mul_nonneg (by omega) (Int.mul_nonneg (by omega) (by omega))
        have e3 : U' * (M * (q * q')) ≤ U * (M * (q * q')) := Int.mul_le_mul_of_nonneg_right hd hpos
        exact Int.le_of_mul_le_mul_right (show p' * q * (64 * N) ≤ p * q' * (64 * N) by rw [e1, e2]; exact e3) (by omega)
      have hc : ¬ cmpS p q p' q' < 0 := by
        unfold cmpS
        rw [if_pos ⟨r1, r2⟩, if_neg (by omega)]
        split <;> decide
      rw [decide_eq_false hc, cond_false]
end

/-- What is so of each of the four lengths. -/
theorem facts {k : Nat} (hk : 40000 ≤ k) {B0 B1 n m r : Int} (hB : (B0 = 1 ∧ B1 = 1 ∧ n = 0 ∧ m = 0) ∨ (B0 = 2 ∧ B1 = 3 ∧ n = 3 ∧ m = 2) ∨ (B0 = 4 ∧ B1 = 5 ∧ n = 5 ∧ m = 4) ∨ (B0 = 4 ∧ B1 = 7 ∧ n = 7 ∧ m = 4)) (h0 : 0 ≤ r) (h1 : r < 4096) :
    ∃ P Q n' m' X b d n2 m2 t, ratio_Of.f k (IntKind.i64.wrap (IntKind.i64.wrap (1 + r) * B0)) (IntKind.i64.wrap (64 * B1)) = some (P, Q, 0) ∧ value_Split.f k P Q = some (g n' m' X, 0) ∧ K4 n' m' ∧ 0 < X ∧ X ≤ 28672 ∧ qx_sum.f k ((g n' m' X).map row23) = some (P, Q, true) ∧
      value_Find.f k P Q = some (b, d, n2, m2, t) ∧ (t = true → g n' m' X = [⟨b, d, n2, m2⟩]) := by
  have hn : K4 n m := by
    unfold K4
    rcases hB with ⟨_, _, rfl, rfl⟩ | ⟨_, _, rfl, rfl⟩ | ⟨_, _, rfl, rfl⟩ | ⟨_, _, rfl, rfl⟩ <;> decide
  have hnm : mm n m = B0 ∧ nn n = B1 := by
    rcases hB with ⟨rfl, rfl, rfl, rfl⟩ | ⟨rfl, rfl, rfl, rfl⟩ | ⟨rfl, rfl, rfl, rfl⟩ | ⟨rfl, rfl, rfl, rfl⟩ <;> decide
  have hb : 1 ≤ B0 ∧ B0 ≤ B1 ∧ B1 ≤ 7 := by
    rcases hB with ⟨rfl, rfl, _⟩ | ⟨rfl, rfl, _⟩ | ⟨rfl, rfl, _⟩ | ⟨rfl, rfl, _⟩ <;> decide
  have hbd := mul_bd (x := 1 + r) (y := B0) (A := 4096) (B := 7) (by omega) (by omega)
  have hpos : 0 < (1 + r) * B0 := Int.mul_pos (by omega) (by omega)
  rw [wrI (x := 1 + r) (by omega) (by omega), wrI (x := (1 + r) * B0) (by omega) (by omega), wrI (x := 64 * B1) (by omega) (by omega)]
  obtain ⟨P, Q, e1, hR, hP⟩ := reduce (n := (1 + r) * B0) (d := 64 * B1) (by omega) (by omega) (by omega)
  have hQ := hR.1
  have hP0 : 0 < P := by
    have : 0 < P * (64 * B1) := by rw [hP]; exact Int.mul_pos hpos (by omega)
    exact Int.pos_of_mul_pos_left this (by omega)
  have hPQ : P ≤ 64 * Q := by
    have a1 : (1 + r) * B0 * Q ≤ 4096 * B1 * Q := Int.mul_le_mul_of_nonneg_right (Int.mul_le_mul (by omega) (by omega) (by omega) (by omega)) (by omega)
    have a2 : P * (64 * B1) ≤ 64 * Q * (64 * B1) := by
      rw [hP, show 64 * Q * (64 * B1) = 4096 * B1 * Q by grind]; exact a1
    exact Int.le_of_mul_le_mul_right a2 (by omega)
  have hs := spl_some hn (x := 1 + r) (by omega) hR (by rw [hnm.1, hnm.2]; exact hP)
  rcases spl_cases hP0 hPQ hR with h | ⟨n', m', X, hn', hX0, hX, hsp, hPX⟩
  · rw [h] at hs; exact absurd hs (by decide)
  · obtain ⟨b, d, n2, m2, t, hf, ht⟩ := find_split (k := k) (by omega) hs
    rw [hsp] at ht
    exact ⟨P, Q, n', m', X, b, d, n2, m2, t, by rw [Of_eq (by omega) ⟨by omega, by omega⟩ ⟨by omega, by omega⟩, e1], by rw [split_eq hk hR hP0 hPQ, hsp], hn', hX0, hX, gsum_is hk (by omega) hX hn' hR hPX, hf, ht⟩

section
variable {k : Nat} {f10 : Option Bool}
abbrev L5k (k : Nat) (f10 : Option Bool) := qx_splits.L5 k f10 (value_Find.f k) (value_Right.f k) (qx_length.f k) partitalaw04_pick.f (fun a0 a1 => (value_Split.f k a0 a1).map fun r => (r.1.map row23, r.2)) (qx_sum.f k) (ratio_Of.f k) (ratio_Compare.f k)
theorem splits5 (hk : 50000 ≤ k) {a0 a1 : Int} (ha : I64 a0) (x0 x1 : Bool) (i : Int) (hi : i = 0 ∨ i = 1 ∨ i = 2 ∨ i = 3) (j : Nat) :
    L5k k f10 (j + 1) (x0, x1, 4, i, a0, a1, 1, 1, 2, 3, 4, 5, 4, 7) = L5k k f10 j (x0, x1, 4, i + 1, a0, a1, 1, 1, 2, 3, 4, 5, 4, 7) := by
  obtain ⟨r, er, r0, r1⟩ := pickR (n := 4096) ha (by decide) (by decide)
  unfold L5k
  simp only [qx_splits.L5, qx_splits.L5.S]
  have fin : ∀ {n' m' X b d n2 m2 : Int} {t : Bool}, 0 < X → X ≤ 28672 → (t = true → g n' m' X = [⟨b, d, n2, m2⟩]) → (g n' m' X).length ≤ 28672 ∧ 0 < (g n' m' X).length := by
    intro n' m' X b d n2 m2 t h0 h1 _
    exact ⟨g_len _ _ _ _ (by omega), by rw [g_pos h0]; simp⟩
  rcases hi with rfl | rfl | rfl | rfl
  all_goals
    rw [decide_eq_true (by decide), cond_true]
  · rw [if_neg (by decide), if_neg (by decide), if_neg (by decide), if_pos (by decide), er, Option.bind_some]
    obtain ⟨P, Q, n', m', X, b, d, n2, m2, t, f1, f2, f3, f4, f5, f6, f7, f8⟩ := facts (k := k) (by omega) (.inl ⟨rfl, rfl, rfl, rfl⟩) r0 r1
    obtain ⟨l1, l2⟩ := fin f4 f5 f8
    rw [f1, Option.bind_some]
    simp only []
    rw [f2, Option.map_some, Option.bind_some, f6, Option.bind_some]
    simp only [beq_self_eq_true, Bool.not_true, cond_false, Bool.and_self, List.length_map]
    rw [show (((g n' m' X).length : Int) == 0) = false by rw [beq_eq_false_iff_ne]; omega, cond_false]
    have h13 := splits13 (K := k) (f10 := f10) (f11 := value_Find.f k) (f18 := partitalaw04_pick.f) (f19 := fun a0 a1 => (value_Split.f k a0 a1).map fun r => (r.1.map row23, r.2)) (f20 := qx_sum.f k) (f21 := ratio_Of.f k) (k0 := k) (by omega) f5 f3 x0 x1 0 true 4 0 a0 a1 1 1 P Q P Q 1 1 2 3 4 5 4 7 (g n' m' X).length 0 k (by omega) (by omega)
    rw [show ((0 : Nat) : Int) = 0 from rfl] at h13
    rw [h13, Option.bind_some, Sum.elim_inl]
    simp only []
    rw [f7, Option.bind_some]
    cases t with
    | false => rfl
    | true =>
      rw [f8 rfl]
      simp [row23, D.at, D.toInt]
      rfl
  · rw [if_neg (by decide), if_neg (by decide), if_pos (by decide), er, Option.bind_some]
    obtain ⟨P, Q, n', m', X, b, d, n2, m2, t, f1, f2, f3, f4, f5, f6, f7, f8⟩ := facts (k := k) (by omega) (.inr (.inl ⟨rfl, rfl, rfl, rfl⟩)) r0 r1
    obtain ⟨l1, l2⟩ := fin f4 f5 f8
    rw [f1, Option.bind_some]
    simp only []
    rw [f2, Option.map_some, Option.bind_some, f6, Option.bind_some]
    simp only [beq_self_eq_true, Bool.not_true, cond_false, Bool.and_self, List.length_map]
    rw [show (((g n' m' X).length : Int) == 0) = false by rw [beq_eq_false_iff_ne]; omega, cond_false]
    have h13 := splits13 (K := k) (f10 := f10) (f11 := value_Find.f k) (f18 := partitalaw04_pick.f) (f19 := fun a0 a1 => (value_Split.f k a0 a1).map fun r => (r.1.map row23, r.2)) (f20 := qx_sum.f k) (f21 := ratio_Of.f k) (k0 := k) (by omega) f5 f3 x0 x1 0 true 4 1 a0 a1 2 3 P Q P Q 1 1 2 3 4 5 4 7 (g n' m' X).length 0 k (by omega) (by omega)
    rw [show ((0 : Nat) : Int) = 0 from rfl] at h13
    rw [h13, Option.bind_some, Sum.elim_inl]
    simp only []
    rw [f7, Option.bind_some]
    cases t with
    | false => rfl
    | true =>
      rw [f8 rfl]
      simp [row23, D.at, D.toInt]
      rfl
  · rw [if_neg (by decide), if_pos (by decide), er, Option.bind_some]
    obtain ⟨P, Q, n', m', X, b, d, n2, m2, t, f1, f2, f3, f4, f5, f6, f7, f8⟩ := facts (k := k) (by omega) (.inr (.inr (.inl ⟨rfl, rfl, rfl, rfl⟩))) r0 r1
    obtain ⟨l1, l2⟩ := fin f4 f5 f8
    rw [f1, Option.bind_some]
    simp only []
    rw [f2, Option.map_some, Option.bind_some, f6, Option.bind_some]
    simp only [beq_self_eq_true, Bool.not_true, cond_false, Bool.and_self, List.length_map]
    rw [show (((g n' m' X).length : Int) == 0) = false by rw [beq_eq_false_iff_ne]; omega, cond_false]
    have h13 := splits13 (K := k) (f10 := f10) (f11 := value_Find.f k) (f18 := partitalaw04_pick.f) (f19 := fun a0 a1 => (value_Split.f k a0 a1).map fun r => (r.1.map row23, r.2)) (f20 := qx_sum.f k) (f21 := ratio_Of.f k) (k0 := k) (by omega) f5 f3 x0 x1 0 true 4 2 a0 a1 4 5 P Q P Q 1 1 2 3 4 5 4 7 (g n' m' X).length 0 k (by omega) (by omega)
    rw [show ((0 : Nat) : Int) = 0 from rfl] at h13
    rw [h13, Option.bind_some, Sum.elim_inl]
    simp only []
    rw [f7, Option.bind_some]
    cases t with
    | false => rfl
    | true =>
      rw [f8 rfl]
      simp [row23, D.at, D.toInt]
      rfl
  · rw [if_pos (by decide), er, Option.bind_some]
    obtain ⟨P, Q, n', m', X, b, d, n2, m2, t, f1, f2, f3, f4, f5, f6, f7, f8⟩ := facts (k := k) (by omega) (.inr (.inr (.inr ⟨rfl, rfl, rfl, rfl⟩))) r0 r1
    obtain ⟨l1, l2⟩ := fin f4 f5 f8
    rw [f1, Option.bind_some]
    simp only []
    rw [f2, Option.map_some, Option.bind_some, f6, Option.bind_some]
    simp only [beq_self_eq_true, Bool.not_true, cond_false, Bool.and_self, List.length_map]
    rw [show (((g n' m' X).length : Int) == 0) = false by rw [beq_eq_false_iff_ne]; omega, cond_false]
    have h13 := splits13 (K := k) (f10 := f10) (f11 := value_Find.f k) (f18 := partitalaw04_pick.f) (f19 := fun a0 a1 => (value_Split.f k a0 a1).map fun r => (r.1.map row23, r.2)) (f20 := qx_sum.f k) (f21 := ratio_Of.f k) (k0 := k) (by omega) f5 f3 x0 x1 0 true 4 3 a0 a1 4 7 P Q P Q 1 1 2 3 4 5 4 7 (g n' m' X).length 0 k (by omega) (by omega)
    rw [show ((0 : Nat) : Int) = 0 from rfl] at h13
    rw [h13, Option.bind_some, Sum.elim_inl]
    simp only []
    rw [f7, Option.bind_some]
    cases t with
    | false => rfl
    | true =>
      rw [f8 rfl]
      simp [row23, D.at, D.toInt]
      rfl
theorem splits5_all (hk : 50000 ≤ k) {a0 a1 : Int} (ha : I64 a0) (x0 x1 : Bool) : ∀ j, 4 < j → L5k k f10 j (x0, x1, 4, 0, a0, a1, 1, 1, 2, 3, 4, 5, 4, 7) = some (.inl (x0, x1, a0, a1)) := by
  intro j hj
  obtain ⟨j, rfl⟩ : ∃ m, j = m + 1 + 1 + 1 + 1 + 1 := ⟨j - 5, by omega⟩
  rw [splits5 hk ha x0 x1 0 (by decide), show (0 : Int) + 1 = 1 from rfl, splits5 hk ha x0 x1 1 (by decide), show (1 : Int) + 1 = 2 from rfl, splits5 hk ha x0 x1 2 (by decide), show (2 : Int) + 1 = 3 from rfl, splits5 hk ha x0 x1 3 (by decide), show (3 : Int) + 1 = 4 from rfl]
  unfold L5k
  simp only [qx_splits.L5, qx_splits.L5.S]
  rw [decide_eq_false (by decide), cond_false]
end

theorem ValueSplits : partitalaw04_ValueSplits.Pure := by
  intro a0 a1 h0 h1
  have i0 := wf64 h0
  have i1 := wf64 h1
  suffices H : ∀ k : Nat, 50000 ≤ k → partitalaw04_examples.f k = some true → qx_splits.f k a0 a1 = some true from ⟨200 + 50000, H _ (by omega) (examples_ks _)⟩
  intro k hk hex
  unfold qx_splits.f qx_splits.t
  rw [hex, Option.bind_some, Bool.not_true, cond_false]
  have h5 := splits5_all (k := k) (f10 := some true) hk (a1 := a1) i0 false true k (by omega)
  unfold L5k at h5
  rw [show (((4 : Nat) : Int)) = 4 from rfl, h5, Option.bind_some, Sum.elim_inl]
  simp only []
  have nil : ∃ P Q, qx_sum.f k [] = some (P, Q, true) := by
    obtain ⟨P, Q, e, _⟩ := gsum (k0 := k) (by omega) (n := 0) (m := 0) (x := 0) (by decide) (by decide) (.inl ⟨rfl, rfl⟩)
    rw [show g 0 0 0 = [] from g_zero (by decide)] at e
    exact ⟨P, Q, e⟩
  have no : value_Split.f k a0 a1 = some ([], 41) → ((Option.map (fun r => (List.map row23 r.fst, r.snd)) (value_Split.f k a0 a1)).bind fun v4 => (qx_sum.f k v4.fst).bind fun v5 => bif true then bif v4.snd == (0 : Int) then bif v5.snd.snd then bif v5.fst == a0 && (v5.snd.fst == a1 && true) then some true else bif v4.snd == (41 : Int) then some ((v4.fst.length : Int) == (0 : Int)) else some false else bif v4.snd == (41 : Int) then some ((v4.fst.length : Int) == (0 : Int)) else some false else bif v4.snd == (41 : Int) then some ((v4.fst.length : Int) == (0 : Int)) else some false else some false) = some true := by
    intro e
    obtain ⟨P, Q, e2⟩ := nil
    rw [e, Option.map_some, Option.bind_some, List.map_nil, e2]
    rfl
  by_cases hR : Rt a0 a1
  · by_cases hp : 0 < a0
    · by_cases hq : a0 ≤ 64 * a1
      · rcases spl_cases hp hq hR with h | ⟨n', m', X, hn', hX0, hX, hsp, hPX⟩
        · exact no (by rw [split_eq (by omega) hR hp hq, h])
        · rw [split_eq (by omega) hR hp hq, hsp, Option.map_some, Option.bind_some, gsum_is (by omega) (by omega) hX hn' hR hPX, Option.bind_some]
          simp only [beq_self_eq_true, Bool.and_self, cond_true]
      · exact no (split_no (by omega) i0 i1 (.inr (.inr (by
          unfold cmpS
          have : Rt 64 1 := ⟨by decide, by decide, by decide, by decide⟩
          rw [if_pos ⟨hR, this⟩, if_neg (by omega), if_pos (by omega)]; decide))))
    · exact no (split_no (by omega) i0 i1 (.inr (.inl (by omega))))
  · exact no (split_no (by omega) i0 i1 (.inl hR))
end Go.Proofs.YtajbnfidcpfonaaDoor.Pure
