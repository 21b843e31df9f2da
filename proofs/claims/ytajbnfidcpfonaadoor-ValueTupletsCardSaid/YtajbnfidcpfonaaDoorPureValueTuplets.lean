/- For any value: of a tuplet of a right one made of it, as many as it says are as long as as many plain ones as it says; no condition. -/
import Derived.Test.YtajbnfidcpfonaaDoorV0
import Derived.Test.YtajbnfidcpfonaaDoorV2
import Derived.Test.YtajbnfidcpfonaaDoorPureLength
set_option linter.unusedVariables false
set_option linter.unusedSimpArgs false
namespace Go.Proofs.YtajbnfidcpfonaaDoor.Pure
open Go.RowKit Go.Proofs.Qx Go.Proofs.YtajbnfidcpfonaaDoor.M Go.Proofs.YtajbnfidcpfonaaDoorW.PrintWords Go.Proofs.YtajbnfidcpfonaaDoorW.PrintLast Go.Proofs.YtajbnfidcpfonaaDoorW.PrintMore

theorem examples_kt : ∀ n, partitalaw04_examples.f (200 + n) = some true
  | 0 => examples_ok
  | n + 1 => partitalaw04_examples.mono _ _ (examples_kt n)
theorem wrI {x : Int} (h0 : -1000000000000 ≤ x) (h1 : x ≤ 1000000000000) : IntKind.i64.wrap x = x := by
  rw [Go.IntWalk.i64_left]; exact wr (by omega) (by omega)
def r4 (b d n m : Int) : List D := [.int b, .int d, .int n, .int m]
theorem at_rep {N i : Nat} (h : i < N) (x : List D) (j : Nat) : D.at (List.replicate N x) i j = x.getD j (.int 0) := by
  simp [D.at, List.getD_eq_getElem?_getD, List.getElem?_replicate, h]
theorem Rt01 : Rt 0 1 := ⟨by decide, by decide, by decide, by decide⟩

/-- The sum of a list of one value: as many times its length. -/
theorem qsum_eq {K k0 : Nat} (hk0 : 150 ≤ k0) {N : Nat} {b d n m : Int} (hN : N ≤ 15) (hv : VR b d n m) : ∀ (j i : Nat) (P Q c e : Int), i + j = N → Rt P Q → P * lden b d n = (i : Int) * lnum d n m * Q →
    ∀ k, j < k → ∃ P' Q', qx_sum.L3 K (value_Length.f k0) (ratio_Add.f k0) k (List.replicate N (r4 b d n m), false, (i : Int), c, e, P, Q) = some (.inl (false, c, e, P', Q')) ∧ Rt P' Q' ∧ P' * lden b d n = (N : Int) * lnum d n m * Q' := by
  have hb := l_bd hv
  obtain ⟨p, q, e1, hr, he⟩ := Length_R (k := k0) hk0 hv
  intro j
  induction j with
  | zero =>
    intro i P Q c e hi hR hP k hk
    obtain ⟨k, rfl⟩ : ∃ m, k = m + 1 := ⟨k - 1, by omega⟩
    refine ⟨P, Q, ?_, hR, by rw [show (N : Int) = (i : Int) by omega]; exact hP⟩
    simp only [qx_sum.L3, qx_sum.L3.S]
    rw [List.length_replicate, decide_eq_false (by omega), cond_false]
  | succ j ih =>
    intro i P Q c e hi hR hP k hk
    obtain ⟨k, rfl⟩ : ∃ m, k = m + 1 := ⟨k - 1, by omega⟩
    obtain ⟨iR, iS⟩ := Rt_I64 hR
    obtain ⟨ir, is⟩ := Rt_I64 hr
    have hstep : qx_sum.L3 K (value_Length.f k0) (ratio_Add.f k0) (k + 1) (List.replicate N (r4 b d n m), false, (i : Int), c, e, P, Q) =
        (ratio_Add.f k0 P Q p q).bind fun v2 => bif !v2.2.2 == (0 : Int) then some (.inr (false, 0, 0)) else qx_sum.L3 K (value_Length.f k0) (ratio_Add.f k0) k (List.replicate N (r4 b d n m), false, ((i + 1 : Nat) : Int), c, e, v2.1, v2.2.1) := by
      simp only [qx_sum.L3, qx_sum.L3.S]
      rw [List.length_replicate, decide_eq_true (by omega), cond_true, if_pos (by omega)]
      simp only [Int.toNat_natCast, at_rep (show i < N by omega), r4, List.getD_cons_zero, List.getD_cons_succ, D.toInt]
      rw [e1, Option.bind_some]
      have hw : IntKind.i64.wrap ((i : Int) + 1) = ((i + 1 : Nat) : Int) := wrI (by omega) (by omega)
      simp only [hw, beq_self_eq_true, Bool.not_true, cond_false]
    rw [hstep, Add_eq (by omega) iR iS ir is, Option.bind_some]
    generalize hNN : lnum d n m = NN at hb he hP ih ⊢
    generalize hD : lden b d n = D at hb he hP ih ⊢
    have hbi : (((i + 1 : Nat) : Int) * NN).natAbs ≤ 1000000000 := by
      have := mul_bd (x := ((i + 1 : Nat) : Int)) (y := NN) (A := 15) (B := 105) (by omega) (by omega)
      omega
    obtain ⟨p', q', e2, hr', he'⟩ := reduce (n := ((i + 1 : Nat) : Int) * NN) (d := D) (by omega) hbi (by omega)
    have hQ := hR.1
    have hq := hr.1
    have hadd : addS P Q p q = (p', q', 0) := by
      unfold addS
      rw [if_pos ⟨hR, hr⟩]
      refine ofS_is (by have := Int.mul_pos (show 0 < Q by omega) (show 0 < q by omega); omega) hr' ?_
      have hD0 : D ≠ 0 := by omega
      apply Int.eq_of_mul_eq_mul_right hD0
      push_cast at he'
      grind
    rw [hadd]
    exact ih (i + 1) p' q' c e (by omega) hr' he' k (by omega)

theorem qsum {k0 : Nat} (hk0 : 150 ≤ k0) {N : Nat} {b d n m : Int} (hN : N ≤ 15) (hv : VR b d n m) : ∃ P Q, qx_sum.f k0 (List.replicate N (r4 b d n m)) = some (P, Q, true) ∧ Rt P Q ∧ P * lden b d n = (N : Int) * lnum d n m * Q := by
  obtain ⟨P, Q, h1, h2, h3⟩ := qsum_eq (K := k0) hk0 hN hv N 0 0 1 0 0 (by omega) Rt01 (by simp) k0 (by omega)
  refine ⟨P, Q, ?_, h2, h3⟩
  unfold qx_sum.f qx_sum.t
  rw [show ((0 : Nat) : Int) = 0 from rfl] at h1
  rw [h1]
  rfl

section
variable {K : Nat} {f10 : Option Bool} {f13 : Int → Int → Int → Int → Option Bool} {f14 : Int → Int → Int → Int → Option (Int × Int × Int × Int)} {f20 : List (List D) → Option (Int × Int × Bool)}
theorem tl0 (t u : Bool) (b d n m b' d' n' m' : Int) : ∀ (j i k : Nat), (i : Int) + j = n → i + j ≤ 15 → j < k →
    qx_tuplets.L12 K f10 f13 f14 f20 k (t, u, (i : Int), b, d, n, m, b', d', n', m', List.replicate i (r4 b d n m)) = some (t, u, b, d, n, m, b', d', n', m', List.replicate (i + j) (r4 b d n m)) := by
  intro j
  induction j with
  | zero =>
    intro i k h1 h2 hk
    obtain ⟨k, rfl⟩ : ∃ m, k = m + 1 := ⟨k - 1, by omega⟩
    simp only [qx_tuplets.L12, qx_tuplets.L12.S]
    rw [decide_eq_false (by omega), cond_false]
    rfl
  | succ j ih =>
    intro i k h1 h2 hk
    obtain ⟨k, rfl⟩ : ∃ m, k = m + 1 := ⟨k - 1, by omega⟩
    have := ih (i + 1) k (by omega) (by omega) (by omega)
    simp only [qx_tuplets.L12, qx_tuplets.L12.S]
    rw [decide_eq_true (by omega), cond_true, List.length_replicate, if_pos (by omega), wrI (by omega) (by omega)]
    rw [show i + (j + 1) = i + 1 + j by omega, ← this, List.replicate_succ', show (i : Int) + 1 = ((i + 1 : Nat) : Int) from rfl]
    rfl
theorem tl1 (t u : Bool) (b d n m b' d' n' m' : Int) (L : List (List D)) : ∀ (j i k : Nat), (i : Int) + j = m → i + j ≤ 15 → j < k →
    qx_tuplets.L16 K f10 f13 f14 f20 k (t, u, (i : Int), b, d, n, m, b', d', n', m', L, List.replicate i (r4 b' d' n' m')) = some (t, u, b, d, n, m, b', d', n', m', L, List.replicate (i + j) (r4 b' d' n' m')) := by
  intro j
  induction j with
  | zero =>
    intro i k h1 h2 hk
    obtain ⟨k, rfl⟩ : ∃ m, k = m + 1 := ⟨k - 1, by omega⟩
    simp only [qx_tuplets.L16, qx_tuplets.L16.S]
    rw [decide_eq_false (by omega), cond_false]
    rfl
  | succ j ih =>
    intro i k h1 h2 hk
    obtain ⟨k, rfl⟩ : ∃ m, k = m + 1 := ⟨k - 1, by omega⟩
    have := ih (i + 1) k (by omega) (by omega) (by omega)
    simp only [qx_tuplets.L16, qx_tuplets.L16.S]
    rw [decide_eq_true (by omega), cond_true, List.length_replicate, if_pos (by omega), wrI (by omega) (by omega)]
    rw [show i + (j + 1) = i + 1 + j by omega, ← this, List.replicate_succ', show (i : Int) + 1 = ((i + 1 : Nat) : Int) from rfl]
    rfl
theorem tl0z (t u : Bool) (b d n m b' d' n' m' : Int) (k : Nat) (h0 : 0 ≤ n) (h1 : n ≤ 15) (hk : 15 < k) :
    qx_tuplets.L12 K f10 f13 f14 f20 k (t, u, 0, b, d, n, m, b', d', n', m', []) = some (t, u, b, d, n, m, b', d', n', m', List.replicate n.toNat (r4 b d n m)) := by
  have := tl0 (K := K) (f10 := f10) (f13 := f13) (f14 := f14) (f20 := f20) t u b d n m b' d' n' m' n.toNat 0 k (by omega) (by omega) (by omega)
  rw [Nat.zero_add] at this
  exact this
theorem tl1z (t u : Bool) (b d n m b' d' n' m' : Int) (L : List (List D)) (k : Nat) (h0 : 0 ≤ m) (h1 : m ≤ 15) (hk : 15 < k) :
    qx_tuplets.L16 K f10 f13 f14 f20 k (t, u, 0, b, d, n, m, b', d', n', m', L, []) = some (t, u, b, d, n, m, b', d', n', m', L, List.replicate m.toNat (r4 b' d' n' m')) := by
  have := tl1 (K := K) (f10 := f10) (f13 := f13) (f14 := f14) (f20 := f20) t u b d n m b' d' n' m' L m.toNat 0 k (by omega) (by omega) (by omega)
  rw [Nat.zero_add] at this
  exact this
end

theorem vrightq {k : Nat} (hk : 1 ≤ k) {b d n m : Int} (h : VR b d n m) : value_Right.f k b d n m = some true := by rw [vright_eq hk, decide_eq_true h]

theorem tup_same {b d n m : Int} (h : VR b d n m) (hn : n ≠ 0) : ∃ P Q, qx_sum.f 299 (List.replicate n.toNat (r4 b d n m)) = some (P, Q, true) ∧ qx_sum.f 299 (List.replicate m.toNat (r4 b d 0 0)) = some (P, Q, true) := by
  have hnm : 2 ≤ n ∧ n ≤ 15 ∧ 1 ≤ m ∧ m ≤ 15 ∧ n ≠ m := by
    rcases h.2.2.2.2 with ⟨h1, h2⟩ | h1
    · exact absurd h1 hn
    · exact h1
  have hp : VR b d 0 0 := ⟨h.1, h.2.1, h.2.2.1, h.2.2.2.1, .inl ⟨rfl, rfl⟩⟩
  obtain ⟨P1, Q1, s1, r1, q1⟩ := qsum (k0 := 299) (by omega) (N := n.toNat) (by omega) h
  obtain ⟨P2, Q2, s2, r2, q2⟩ := qsum (k0 := 299) (by omega) (N := m.toNat) (by omega) hp
  have hb := l_bd hp
  rw [show ((n.toNat : Nat) : Int) = n by omega] at q1
  rw [show ((m.toNat : Nat) : Int) = m by omega] at q2
  unfold lnum lden at q1
  rw [if_neg hn, if_neg hn] at q1
  unfold lnum lden at q2 hb
  rw [if_pos rfl, if_pos rfl] at q2
  rw [if_pos rfl, if_pos rfl] at hb
  have hu : P1 = P2 ∧ Q1 = Q2 := by
    refine Rt_unique r1 r2 ?_
    generalize dDen d * 2 ^ b.toNat = D at q1 q2 hb
    have hD : D * n ≠ 0 := by have := Int.mul_pos (show 0 < D by omega) (show 0 < n by omega); omega
    apply Int.eq_of_mul_eq_mul_right hD
    grind
  obtain ⟨rfl, rfl⟩ := hu
  exact ⟨P1, Q1, s1, s2⟩

theorem ValueTuplets : partitalaw04_ValueTuplets.Pure := by
  intro a0 a1 a2 a3 h0 h1 h2 h3
  refine ⟨299, ?_⟩
  obtain ⟨b, d, n, m, e, hv⟩ := Value_eq (wf64 h0) (wf64 h1) (wf64 h2) (wf64 h3)
  unfold qx_tuplets.f qx_tuplets.t
  rw [examples_kt 99, Option.bind_some, Bool.not_true, cond_false, e, Option.bind_some]
  dsimp only
  by_cases hn : n = 0
  · subst hn
    have hv' : VR b d 3 2 := ⟨hv.1, hv.2.1, hv.2.2.1, hv.2.2.2.1, .inr (by decide)⟩
    have hp : VR b d 0 0 := ⟨hv.1, hv.2.1, hv.2.2.1, hv.2.2.2.1, .inl ⟨rfl, rfl⟩⟩
    obtain ⟨P, Q, s1, s2⟩ := tup_same hv' (by decide)
    rw [beq_self_eq_true, cond_true, tl0z _ _ _ _ _ _ _ _ _ _ _ (by decide) (by decide) (by decide), Option.bind_some]
    dsimp only
    rw [tl1z _ _ _ _ _ _ _ _ _ _ _ _ (by decide) (by decide) (by decide), Option.bind_some]
    dsimp only
    rw [s1, Option.bind_some, s2, Option.bind_some]
    dsimp only
    rw [vrightq (by omega) hv', vrightq (by omega) hp]
    simp
  · have hnm : 2 ≤ n ∧ n ≤ 15 ∧ 1 ≤ m ∧ m ≤ 15 ∧ n ≠ m := by
      rcases hv.2.2.2.2 with ⟨h1, h2⟩ | h1
      · exact absurd h1 hn
      · exact h1
    have hp : VR b d 0 0 := ⟨hv.1, hv.2.1, hv.2.2.1, hv.2.2.2.1, .inl ⟨rfl, rfl⟩⟩
    obtain ⟨P, Q, s1, s2⟩ := tup_same hv hn
    rw [beq_false_of_ne hn, cond_false, tl0z _ _ _ _ _ _ _ _ _ _ _ (by omega) (by omega) (by decide), Option.bind_some]
    dsimp only
    rw [tl1z _ _ _ _ _ _ _ _ _ _ _ _ (by omega) (by omega) (by decide), Option.bind_some]
    dsimp only
    rw [s1, Option.bind_some, s2, Option.bind_some]
    dsimp only
    rw [vrightq (by omega) hv, vrightq (by omega) hp]
    simp
end Go.Proofs.YtajbnfidcpfonaaDoor.Pure
