/- What a length is split into: for any length. -/
import Derived.Test.YtajbnfidcpfonaaGreatDoorGSeq
import Derived.Test.YtajbnfidcpfonaaGreatDoorPureLength
set_option linter.unusedVariables false
set_option linter.unusedSimpArgs false
namespace Go.Proofs.YtajbnfidcpfonaaGreatDoor.Pure
open Go.RowKit Go.Proofs.Qx Go.Proofs.YtajbnfidcpfonaaGreatDoor.M Go.Proofs.YtajbnfidcpfonaaGreatDoorW.PrintWords Go.Proofs.YtajbnfidcpfonaaGreatDoorW.PrintLast Go.Proofs.YtajbnfidcpfonaaGreatDoorW.PrintMore

theorem wrI {x : Int} (h0 : -1000000000000 ≤ x) (h1 : x ≤ 1000000000000) : IntKind.i64.wrap x = x := by
  rw [Go.IntWalk.i64_left]; exact wr (by omega) (by omega)
theorem wrS {x : Int} (h0 : -1000000000000000000 ≤ x) (h1 : x ≤ 1000000000000000000) : wrap64 x = x := wr (by omega) (by omega)

/-- The units of a plain value. -/
def u (b d : Int) : Int := if (64 * dNum d) % (dDen d * 2 ^ b.toNat) = 0 then (64 * dNum d) / (dDen d * 2 ^ b.toNat) else 0
def pairs : List (Int × Int) := [(0, 0), (0, 1), (0, 2), (1, 0), (1, 1), (1, 2), (2, 0), (2, 1), (2, 2), (3, 0), (3, 1), (3, 2), (4, 0), (4, 1), (4, 2), (5, 0), (5, 1), (5, 2), (6, 0), (6, 1), (6, 2)]
theorem mem_pairs {b d : Int} (hb : 0 ≤ b ∧ b < 7) (hd : 0 ≤ d ∧ d < 3) : (b, d) ∈ pairs := by
  obtain rfl | rfl | rfl | rfl | rfl | rfl | rfl : b = 0 ∨ b = 1 ∨ b = 2 ∨ b = 3 ∨ b = 4 ∨ b = 5 ∨ b = 6 := by omega
  all_goals
    obtain rfl | rfl | rfl : d = 0 ∨ d = 1 ∨ d = 2 := by omega
    all_goals decide
theorem of_pairs {b d : Int} (h : (b, d) ∈ pairs) : 0 ≤ b ∧ b < 7 ∧ 0 ≤ d ∧ d < 3 := by
  have : ∀ p ∈ pairs, 0 ≤ p.1 ∧ p.1 < 7 ∧ 0 ≤ p.2 ∧ p.2 < 3 := by decide
  exact this _ h
theorem u_bd {b d : Int} (h : (b, d) ∈ pairs) : 0 ≤ u b d ∧ u b d ≤ 112 := by
  have : ∀ p ∈ pairs, 0 ≤ u p.1 p.2 ∧ u p.1 p.2 ≤ 112 := by decide +kernel
  exact this _ h

/-- The units of a length, under a kind. -/
def uq (p q n m : Int) : Int := if n > 0 then (if (p * 64 * n) % (q * m) = 0 then (p * 64 * n) / (q * m) else 0) else (if (p * 64) % q = 0 then (p * 64) / q else 0)
theorem units_eq {p q b d n m : Int} (hr : Rt p q) (hp : 0 ≤ p) (hn : (n = 0) ∨ (1 ≤ n ∧ n ≤ 15)) (hm : n = 0 ∨ (1 ≤ m ∧ m ≤ 15)) : value_units.f p q b d n m = some (uq p q n m) := by
  have h1 := hr.1
  have h2 := hr.2.1
  have h3 := hr.2.2.1
  unfold value_units.f uq
  have e1 : wrap64 (p * 64) = p * 64 := wrS (by omega) (by omega)
  rw [e1]
  have key : ∀ N M : Int, 0 ≤ N → 0 < M → N ≤ 1000000000000 → M ≤ 1000000000000 → (if Int.tmod N M = 0 then some (wrap64 (Int.tdiv N M)) else some 0) = some (if N % M = 0 then N / M else 0) := by
    intro N M hN hM hN1 hM1
    rw [tmod_pos hN, tdiv_pos hN]
    have hd : 0 ≤ N / M := Int.ediv_nonneg hN (by omega)
    have hd2 : N / M ≤ N := Int.ediv_le_self _ hN
    rw [wrS (by omega) (by omega)]
    split <;> rfl
  by_cases h : n > 0
  · rw [if_pos h, if_pos h]
    obtain ⟨hn1, hn2⟩ := hn.resolve_left (by omega)
    obtain ⟨hm1, hm2⟩ := hm.resolve_left (by omega)
    have b1 := mul_bd (x := q) (y := m) (A := 1000000000) (B := 15) (by omega) (by omega)
    have b2 := mul_bd (x := p * 64) (y := n) (A := 64000000000) (B := 15) (by omega) (by omega)
    have b3 : 0 < q * m := Int.mul_pos (by omega) (by omega)
    have b4 : 0 ≤ p * 64 * n := Int.mul_nonneg (by omega) (by omega)
    rw [wrS (x := q * m) (by omega) (by omega), wrS (x := p * 64 * n) (by omega) (by omega), if_neg (by omega)]
    exact key _ _ b4 b3 (by omega) (by omega)
  · rw [if_neg h, if_neg h, if_neg (by omega)]
    exact key _ _ (by omega) (by omega) (by omega) (by omega)

theorem len_u : ∀ p ∈ pairs, (value_Length.f 150 p.1 p.2 0 0).bind (fun t => (value_units.f t.1 t.2.1 0 0 0 0).map fun y => (t.1, t.2.1, t.2.2, y)) = (value_Length.f 150 p.1 p.2 0 0).map fun t => (t.1, t.2.1, t.2.2, u p.1 p.2) := by decide +kernel
theorem VR0 {b d : Int} (h : (b, d) ∈ pairs) : VR b d 0 0 := by
  obtain ⟨h1, h2, h3, h4⟩ := of_pairs h
  exact ⟨h1, h2, h3, h4, .inl ⟨rfl, rfl⟩⟩
/-- The length and the units of a plain value. -/
theorem plain_len {k : Nat} (hk : 150 ≤ k) {b d : Int} (h : (b, d) ∈ pairs) : ∃ p q, value_Length.f k b d 0 0 = some (p, q, 0) ∧ Rt p q ∧ p * (dDen d * 2 ^ b.toNat) = dNum d * q ∧ value_units.f p q 0 0 0 0 = some (u b d) := by
  obtain ⟨p, q, e, hr, he⟩ := Length_R (k := 150) (Nat.le_refl _) (VR0 h)
  have e2 := len_u _ h
  simp only [e, Option.bind_some, Option.map_some] at e2
  obtain ⟨y, hy, hy2⟩ := Option.map_eq_some_iff.1 e2
  simp only [Prod.mk.injEq, true_and] at hy2
  subst hy2
  exact ⟨p, q, at_rounds (value_Length.mono _ _ _ _) hk e, hr, by simpa [lden, lnum] using he, hy⟩

/-- The scan for the longest plain value. -/
def stp (x : Int) (s : Int × Int × Int) (p : Int × Int) : Int × Int × Int := if u p.1 p.2 > s.2.2 ∧ u p.1 p.2 ≤ x then (p.1, p.2, u p.1 p.2) else s
@[irreducible] def fillS (x : Int) : Int × Int × Int := pairs.foldl (stp x) (0, 0, 0)
theorem fillS_def (x : Int) : fillS x = pairs.foldl (stp x) (0, 0, 0) := by unfold fillS; rfl
theorem fill_step {k : Nat} (hk : 150 ≤ k) (x : Int) (s : Int × Int × Int) {b d : Int} (h : (b, d) ∈ pairs) : value_fill.l1 (k + 1) x s.2.2 b b d s.1 s.2.1 0 0 = value_fill.l1 k x (stp x s (b, d)).2.2 b b (d + 1) (stp x s (b, d)).1 (stp x s (b, d)).2.1 0 0 := by
  obtain ⟨p, q, e, hr, _, hu⟩ := plain_len hk h
  have hb := of_pairs h
  rw [value_fill.l1, if_pos (by omega), e, Option.bind_some, hu, Option.bind_some, wrS (by omega) (by omega)]
  unfold stp
  by_cases h1 : u b d > s.2.2
  · rw [if_pos h1]
    by_cases h2 : u b d ≤ x
    · rw [if_pos h2, if_pos ⟨h1, h2⟩]
    · rw [if_neg h2, if_neg (fun h => h2 h.2)]
  · rw [if_neg h1, if_neg (fun h => h1 h.1)]
theorem fill_row {k : Nat} (hk : 150 ≤ k) (x : Int) (s : Int × Int × Int) {b : Int} (h0 : 0 ≤ b) (h1 : b < 7) : value_fill.l0 (k + 5) x s.2.2 b s.1 s.2.1 0 0 = value_fill.l0 k x (stp x (stp x (stp x s (b, 0)) (b, 1)) (b, 2)).2.2 (b + 1) (stp x (stp x (stp x s (b, 0)) (b, 1)) (b, 2)).1 (stp x (stp x (stp x s (b, 0)) (b, 1)) (b, 2)).2.1 0 0 := by
  rw [show k + 5 = (k + 4) + 1 from rfl, value_fill.l0, if_pos h1, show k + 4 = (k + 3) + 1 from rfl,
    fill_step (by omega) x s (mem_pairs ⟨h0, h1⟩ (by decide)), show k + 3 = (k + 2) + 1 from rfl,
    show (0 : Int) + 1 = 1 from rfl, fill_step (by omega) x _ (mem_pairs ⟨h0, h1⟩ (by decide)), show k + 2 = (k + 1) + 1 from rfl,
    show (1 : Int) + 1 = 2 from rfl, fill_step (by omega) x _ (mem_pairs ⟨h0, h1⟩ (by decide)),
    show (2 : Int) + 1 = 3 from rfl, value_fill.l1, if_neg (by decide), wrS (by omega) (by omega)]
theorem fill_eq {k : Nat} (hk : 200 ≤ k) (x : Int) : value_fill.f k x = some ((fillS x).1, (fillS x).2.1, 0, 0, (fillS x).2.2) := by
  obtain ⟨k, rfl⟩ : ∃ j, k = ((((((j + 1) + 5) + 5) + 5) + 5) + 5) + 5 + 5 := ⟨k - 36, by omega⟩
  unfold value_fill.f
  have h := fill_row (k := ((((((k + 1) + 5) + 5) + 5) + 5) + 5) + 5) (by omega) x (0, 0, 0) (b := 0) (by decide) (by decide)
  dsimp only at h
  rw [h, show (0 : Int) + 1 = 1 from rfl, fill_row (by omega) x _ (by decide) (by decide), show (1 : Int) + 1 = 2 from rfl, fill_row (by omega) x _ (by decide) (by decide),
    show (2 : Int) + 1 = 3 from rfl, fill_row (by omega) x _ (by decide) (by decide), show (3 : Int) + 1 = 4 from rfl, fill_row (by omega) x _ (by decide) (by decide),
    show (4 : Int) + 1 = 5 from rfl, fill_row (by omega) x _ (by decide) (by decide), show (5 : Int) + 1 = 6 from rfl, fill_row (by omega) x _ (by decide) (by decide),
    show (6 : Int) + 1 = 7 from rfl, value_fill.l0, if_neg (by decide)]
  simp only [fillS_def, pairs, List.foldl_cons, List.foldl_nil]
theorem fold_inv (x : Int) : ∀ (L : List (Int × Int)) (s : Int × Int × Int), s.2.2 ≤ (L.foldl (stp x) s).2.2 ∧ ((L.foldl (stp x) s) = s ∨ (((L.foldl (stp x) s).1, (L.foldl (stp x) s).2.1) ∈ L ∧ (L.foldl (stp x) s).2.2 = u (L.foldl (stp x) s).1 (L.foldl (stp x) s).2.1 ∧ (L.foldl (stp x) s).2.2 ≤ x)) ∧ ∀ p ∈ L, u p.1 p.2 ≤ x → u p.1 p.2 ≤ (L.foldl (stp x) s).2.2
  | [], s => ⟨Int.le_refl _, .inl rfl, fun _ h => by cases h⟩
  | a :: L, s => by
    obtain ⟨h1, h2, h3⟩ := fold_inv x L (stp x s a)
    rw [List.foldl_cons]
    have hs : s.2.2 ≤ (stp x s a).2.2 ∧ (stp x s a = s ∨ (stp x s a = (a.1, a.2, u a.1 a.2) ∧ u a.1 a.2 ≤ x)) ∧ (u a.1 a.2 ≤ x → u a.1 a.2 ≤ (stp x s a).2.2) := by
      unfold stp
      by_cases h : u a.1 a.2 > s.2.2 ∧ u a.1 a.2 ≤ x
      · rw [if_pos h]; exact ⟨by show s.2.2 ≤ u a.1 a.2; omega, .inr ⟨rfl, h.2⟩, fun _ => Int.le_refl _⟩
      · rw [if_neg h]; exact ⟨Int.le_refl _, .inl rfl, fun hx => by omega⟩
    obtain ⟨g1, g2, g3⟩ := hs
    refine ⟨by omega, ?_, fun p hp hx => ?_⟩
    · rcases h2 with h2 | ⟨i, j, l⟩
      · rw [h2]
        rcases g2 with g2 | ⟨g2, g4⟩
        · exact .inl g2
        · right; rw [g2]; exact ⟨by simp, rfl, g4⟩
      · exact .inr ⟨List.mem_cons_of_mem _ i, j, l⟩
    · rcases List.mem_cons.1 hp with rfl | hp
      · have := g3 hx; omega
      · exact h3 p hp hx
/-- The longest plain value not longer than x units. -/
theorem fill_is {x : Int} (hx : 0 < x) : ((fillS x).1, (fillS x).2.1) ∈ pairs ∧ (fillS x).2.2 = u (fillS x).1 (fillS x).2.1 ∧ 1 ≤ (fillS x).2.2 ∧ (fillS x).2.2 ≤ x ∧ ∀ b d, (b, d) ∈ pairs → u b d ≤ x → u b d ≤ (fillS x).2.2 := by
  obtain ⟨h1, h2, h3⟩ := fold_inv x pairs (0, 0, 0)
  have h61 : u 6 0 = 1 := by decide
  have h4 := h3 (6, 0) (by decide) (by show u 6 0 ≤ x; omega)
  rw [← fillS_def] at h1 h2 h3 h4
  have h5 : 1 ≤ (fillS x).2.2 := by
    have h6 : u 6 0 ≤ (fillS x).2.2 := h4
    omega
  rcases h2 with h2 | ⟨i, j, l⟩
  · exfalso
    rw [h2] at h5; exact absurd h5 (by decide)
  · exact ⟨i, j, h5, l, fun b d hp hx => h3 (b, d) hp hx⟩

/-- The values a number of units is filled with. -/
def gr (n m : Int) : Nat → Int → List S23
  | 0, _ => []
  | f + 1, x => if x > 0 then ⟨(fillS x).1, (fillS x).2.1, n, m⟩ :: gr n m f (x - (fillS x).2.2) else []
theorem gr_more (n m : Int) : ∀ (f f' : Nat) (x : Int), x ≤ (f : Int) → x ≤ (f' : Int) → gr n m f x = gr n m f' x
  | 0, 0, x, _, _ => rfl
  | 0, f' + 1, x, h, _ => by rw [gr, gr, if_neg (by omega)]
  | f + 1, 0, x, _, h => by rw [gr, gr, if_neg (by omega)]
  | f + 1, f' + 1, x, h, h' => by
    rw [gr, gr]
    by_cases hx : x > 0
    · have := (fill_is hx).2.2.1
      rw [if_pos hx, if_pos hx, gr_more n m f f' _ (by omega) (by omega)]
    · rw [if_neg hx, if_neg hx]
def g (n m x : Int) : List S23 := gr n m x.toNat x
theorem g_pos {n m x : Int} (hx : 0 < x) : g n m x = ⟨(fillS x).1, (fillS x).2.1, n, m⟩ :: g n m (x - (fillS x).2.2) := by
  have h := fill_is hx
  unfold g
  rw [gr_more n m x.toNat (x.toNat + 1) x (by omega) (by omega), gr, if_pos hx, gr_more n m x.toNat (x - (fillS x).2.2).toNat _ (by omega) (by omega)]
theorem g_zero {n m x : Int} (hx : x ≤ 0) : g n m x = [] := by
  unfold g
  rw [show x.toNat = 0 by omega]
  rfl
theorem g_len (n m : Int) : ∀ (f : Nat) (x : Int), x ≤ (f : Int) → (g n m x).length ≤ f
  | 0, x, h => by rw [g_zero (by omega)]; simp
  | f + 1, x, h => by
    by_cases hx : 0 < x
    · have := (fill_is hx).2.2.1
      rw [g_pos hx, List.length_cons]
      have := g_len n m f (x - (fillS x).2.2) (by omega)
      omega
    · rw [g_zero (by omega)]; simp
theorem split_l1 (i p q b d n m : Int) : ∀ (f : Nat) (x : Int) (acc : List S23) (k : Nat), x ≤ (f : Int) → acc.length + f ≤ 100000 → 200 + f ≤ k → (0 < x ∨ acc ≠ []) → value_Split.l1 (k + 1) x acc i p q b d n m = some (acc ++ g n m x, 0) := by
  intro f
  induction f with
  | zero =>
    intro x acc k hx hl hk ho
    have hne : acc ≠ [] := ho.resolve_left (by omega)
    have := List.length_pos_iff.2 hne
    rw [value_Split.l1, if_neg (by omega), if_pos (by omega), g_zero (by omega), List.append_nil]
  | succ f ih =>
    intro x acc k hx hl hk ho
    by_cases h : 0 < x
    · have hf := fill_is h
      have hb := u_bd hf.1
      obtain ⟨k, rfl⟩ : ∃ j, k = j + 1 := ⟨k - 1, by omega⟩
      rw [value_Split.l1, if_pos h, fill_eq (by omega), Option.bind_some, if_pos (by omega)]
      dsimp only
      rw [wrS (by omega) (by omega), ih (x - (fillS x).2.2) _ k (by omega) (by rw [List.length_append, List.length_singleton]; omega) (by omega) (.inr (by simp)), g_pos h, List.append_assoc]
      rfl
    · have hne : acc ≠ [] := ho.resolve_left h
      have := List.length_pos_iff.2 hne
      rw [value_Split.l1, if_neg h, if_pos (by omega), g_zero (by omega), List.append_nil]
/-- What a length is split into. -/
def spl (p q : Int) : List S23 × Int :=
  if 0 < uq p q 0 0 then (g 0 0 (uq p q 0 0), 0) else if 0 < uq p q 3 2 then (g 3 2 (uq p q 3 2), 0) else if 0 < uq p q 5 4 then (g 5 4 (uq p q 5 4), 0) else if 0 < uq p q 7 4 then (g 7 4 (uq p q 7 4), 0) else ([], 41)
theorem uq_bd {p q n m : Int} (hp : 0 < p) (hq : p ≤ 64 * q) (hq0 : 0 < q) (hn : n ≤ 7) (hm : n ≤ 0 ∨ 1 ≤ m) : 0 ≤ uq p q n m ∧ uq p q n m ≤ 28672 := by
  unfold uq
  split
  · rename_i h
    split
    · have hm := hm.resolve_left (by omega)
      have b3 : 0 < q * m := Int.mul_pos (by omega) (by omega)
      refine ⟨Int.ediv_nonneg (Int.mul_nonneg (by omega) (by omega)) (by omega), ?_⟩
      have h1 : p * 64 * n ≤ 28672 * (q * m) := by
        have e1 : p * 64 * n ≤ p * 64 * 7 := Int.mul_le_mul_of_nonneg_left hn (by omega)
        have e2 : q * 1 ≤ q * m := Int.mul_le_mul_of_nonneg_left hm (by omega)
        omega
      exact Int.ediv_le_of_le_mul b3 h1
    · omega
  · split
    · exact ⟨Int.ediv_nonneg (by omega) (by omega), Int.ediv_le_of_le_mul (by omega) (by omega)⟩
    · omega
theorem split_eq {k : Nat} (hk : 40000 ≤ k) {p q : Int} (hr : Rt p q) (hp : 0 < p) (hq : p ≤ 64 * q) : value_Split.f k p q = some (spl p q) := by
  have hq0 : 0 < q := by have := hr.1; omega
  obtain ⟨iP, iQ⟩ := Rt_I64 hr
  unfold value_Split.f
  rw [right_eq (by omega) iP iQ, Option.bind_some, if_pos (decide_eq_true hr), if_neg (by omega),
    Compare_eq (by omega) iP iQ ⟨by decide, by decide⟩ ⟨by decide, by decide⟩, Option.bind_some]
  have hc : cmpS p q 64 1 ≤ 0 := by
    unfold cmpS
    split
    · split
      · decide
      · rw [if_neg (by omega)]; decide
    · decide
  rw [decide_eq_false (by omega)]
  obtain ⟨k, rfl⟩ : ∃ j, k = j + 10 := ⟨k - 10, by omega⟩
  rw [show k + 10 = (k + 9) + 1 from rfl, value_Split.j0, if_neg (by decide), show value_kindsAll.f = some 0 from rfl, Option.bind_some]
  have hun : ∀ b d n m, (n = 0 ∨ (1 ≤ n ∧ n ≤ 15)) → (n = 0 ∨ (1 ≤ m ∧ m ≤ 15)) → value_units.f p q b d n m = some (uq p q n m) := fun b d n m h1 h2 => units_eq hr (by omega) h1 h2
  have stepL : ∀ (j : Nat) (i n m : Int), 30000 ≤ j → 0 ≤ i ∧ i < 4 → kNum i = n → kDen i = m → (n = 0 ∨ (1 ≤ n ∧ n ≤ 7)) → (n = 0 ∨ (1 ≤ m ∧ m ≤ 15)) →
      value_Split.l0 (j + 2) i p q = if 0 < uq p q n m then some (g n m (uq p q n m), 0) else value_Split.l0 j (i + 1) p q := by
    intro j i n m hj hi hn hm h1 h2
    have hb := uq_bd (p := p) (q := q) (n := n) (m := m) hp hq hq0 (by omega) (by omega)
    rw [show j + 2 = (j + 1) + 1 from rfl, value_Split.l0, if_pos hi.2, value_kindsAt.f, if_pos hi, hn, hm, Option.bind_some, hun _ _ _ _ (by omega) h2, Option.bind_some]
    by_cases h : 0 < uq p q n m
    · rw [if_pos h, split_l1 _ _ _ _ _ _ _ 28672 _ [] j (by omega) (by simp) (by omega) (.inl h)]
      rfl
    · rw [if_neg h, value_Split.l1, if_neg h, if_neg (by simp), wrS (by omega) (by omega)]
  unfold spl
  rw [show k + 9 = (((((k + 1) + 2) + 2) + 2) + 2) from rfl, stepL _ 0 0 0 (by omega) (by decide) (by decide) (by decide) (by decide) (by decide)]
  split
  · rfl
  rw [show (0 : Int) + 1 = 1 from rfl, stepL _ 1 3 2 (by omega) (by decide) (by decide) (by decide) (by decide) (by decide)]
  split
  · rfl
  rw [show (1 : Int) + 1 = 2 from rfl, stepL _ 2 5 4 (by omega) (by decide) (by decide) (by decide) (by decide) (by decide)]
  split
  · rfl
  rw [show (2 : Int) + 1 = 3 from rfl, stepL _ 3 7 4 (by omega) (by decide) (by decide) (by decide) (by decide) (by decide)]
  split
  · rfl
  rw [show (3 : Int) + 1 = 4 from rfl, value_Split.l0, if_neg (by decide)]
end Go.Proofs.YtajbnfidcpfonaaGreatDoor.Pure
