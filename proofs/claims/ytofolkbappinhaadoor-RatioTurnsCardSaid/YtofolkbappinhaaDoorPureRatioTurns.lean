/- For any three ratios: sums and products may change places, be taken together otherwise, and be taken apart; no condition. -/
import Derived.Test.YtofolkbappinhaaDoorM29
import Derived.Test.YtofolkbappinhaaDoorPureText
set_option linter.unusedVariables false
set_option linter.unusedSimpArgs false
namespace Go.Proofs.YtofolkbappinhaaDoor.Pure
open Go.RowKit Go.Proofs.YtofolkbappinhaaDoor.M Go.Proofs.YtofolkbappinhaaDoorW.PrintWords Go.Proofs.YtofolkbappinhaaDoorW.PrintLast
set_option maxRecDepth 100000

theorem add_any (a b c d : Int) : ∃ x y z, addS a b c d = (x, y, z) ∧ I64 x ∧ I64 y ∧ (z = 0 → Rt a b ∧ Rt c d ∧ Rt x y ∧ x * (b * d) = (a * d + c * b) * y) := by
  unfold addS
  by_cases h : Rt a b ∧ Rt c d
  · rw [if_pos h]
    rcases ofS_spec (a * d + c * b) (den := b * d) (Int.mul_ne_zero (by have := h.1.1; omega) (by have := h.2.1; omega)) with ⟨u, v, f1, f2, f3⟩ | ⟨f1, _⟩
    · obtain ⟨iu, iv⟩ := Rt_I64 f2
      exact ⟨u, v, 0, f1, iu, iv, fun _ => ⟨h.1, h.2, f2, f3⟩⟩
    · exact ⟨0, 0, 10, f1, ⟨by decide, by decide⟩, ⟨by decide, by decide⟩, fun h => absurd h (by decide)⟩
  · rw [if_neg h]
    exact ⟨0, 0, 10, rfl, ⟨by decide, by decide⟩, ⟨by decide, by decide⟩, fun h => absurd h (by decide)⟩
theorem mul_any (a b c d : Int) : ∃ x y z, mulS a b c d = (x, y, z) ∧ I64 x ∧ I64 y ∧ (z = 0 → Rt a b ∧ Rt c d ∧ Rt x y ∧ x * (b * d) = a * c * y) := by
  unfold mulS
  by_cases h : Rt a b ∧ Rt c d
  · rw [if_pos h]
    rcases ofS_spec (a * c) (den := b * d) (Int.mul_ne_zero (by have := h.1.1; omega) (by have := h.2.1; omega)) with ⟨u, v, f1, f2, f3⟩ | ⟨f1, _⟩
    · obtain ⟨iu, iv⟩ := Rt_I64 f2
      exact ⟨u, v, 0, f1, iu, iv, fun _ => ⟨h.1, h.2, f2, f3⟩⟩
    · exact ⟨0, 0, 10, f1, ⟨by decide, by decide⟩, ⟨by decide, by decide⟩, fun h => absurd h (by decide)⟩
  · rw [if_neg h]
    exact ⟨0, 0, 10, rfl, ⟨by decide, by decide⟩, ⟨by decide, by decide⟩, fun h => absurd h (by decide)⟩
theorem nz {p q : Int} (h : Rt p q) : q ≠ 0 := by have := h.1; omega

theorem RatioTurns : partitalaw01_RatioTurns.Pure := by
  intro x1 x2 y1 y2 z1 z2 hx1 hx2 hy1 hy2 hz1 hz2
  obtain ⟨a, b, e1, ha⟩ := Ratio_eq (k := 1000) (by omega) (wf64 hx1) (wf64 hx2)
  obtain ⟨c, d, e2, hc⟩ := Ratio_eq (k := 1000) (by omega) (wf64 hy1) (wf64 hy2)
  obtain ⟨e, f, e3, he⟩ := Ratio_eq (k := 1000) (by omega) (wf64 hz1) (wf64 hz2)
  obtain ⟨ia, ib⟩ := Rt_I64 ha
  obtain ⟨ic, id⟩ := Rt_I64 hc
  obtain ⟨ie, jf⟩ := Rt_I64 he
  have nb := nz ha
  have nd := nz hc
  have nf := nz he
  refine ⟨1000, ?_⟩
  unfold partitalaw01_RatioTurns.f partitalaw01_RatioTurns.t
  rw [examples_ok, Option.bind_some, Bool.not_true, cond_false, e1, Option.bind_some, e2, Option.bind_some, e3, Option.bind_some]
  dsimp only
  have sw1 : addS c d a b = addS a b c d := by
    unfold addS
    by_cases h : Rt a b ∧ Rt c d
    · rw [if_pos h, if_pos ⟨h.2, h.1⟩, Int.add_comm, Int.mul_comm d b]
    · rw [if_neg h, if_neg (fun h' => h ⟨h'.2, h'.1⟩)]
  have sw2 : mulS c d a b = mulS a b c d := by
    unfold mulS
    by_cases h : Rt a b ∧ Rt c d
    · rw [if_pos h, if_pos ⟨h.2, h.1⟩, Int.mul_comm c a, Int.mul_comm d b]
    · rw [if_neg h, if_neg (fun h' => h ⟨h'.2, h'.1⟩)]
  rw [Add_eq (by omega) ia ib ic id, Add_eq (by omega) ic id ia ib, Mul_eq (by omega) ia ib ic id, Mul_eq (by omega) ic id ia ib, sw1, sw2]
  simp only [Option.bind_some, beq_self_eq_true, Bool.and_self, Bool.not_true, cond_false]
  obtain ⟨s1, s2, s3, hs, is1, is2, hS⟩ := add_any a b c d
  obtain ⟨m1, m2, m3, hm, im1, im2, hM⟩ := mul_any a b c d
  rw [hs, hm]
  dsimp only
  obtain ⟨v1, v2, v3, hv, iv1, iv2, hV⟩ := mul_any c d e f
  -- what is taken apart
  have j2 : partitalaw01_RatioTurns.J8 _root_.id (ratio_Add.f 1000) (ratio_Mul.f 1000) true (a, b) (e, f) (s1, s2, s3) (v1, v2, v3) = some true := by
    obtain ⟨w1, w2, w3, hw, iw1, iw2, hW⟩ := mul_any a b e f
    obtain ⟨t1, t2, t3, ht, it1, it2, hT⟩ := add_any w1 w2 v1 v2
    obtain ⟨r1, r2, r3, hr, ir1, ir2, hR⟩ := mul_any s1 s2 e f
    unfold partitalaw01_RatioTurns.J8
    dsimp only
    rw [Mul_eq (by omega) ia ib ie jf, hw, Option.bind_some]
    dsimp only
    rw [Add_eq (by omega) iw1 iw2 iv1 iv2, ht, Option.bind_some, Mul_eq (by omega) is1 is2 ie jf, hr, Option.bind_some]
    dsimp only
    rw [cond_true]
    by_cases q1 : w3 = 0
    · by_cases q2 : v3 = 0
      · by_cases q3 : t3 = 0
        · by_cases q4 : s3 = 0
          · subst q1 q2 q3 q4
            obtain ⟨_, _, w4, w5⟩ := hW rfl
            obtain ⟨_, _, v4, v5⟩ := hV rfl
            obtain ⟨_, _, t4, t5⟩ := hT rfl
            obtain ⟨_, _, s4, s5⟩ := hS rfl
            have nw := nz w4
            have nv := nz v4
            have ns := nz s4
            have key : t1 * (s2 * f) = s1 * e * t2 := by
              have K : w2 * v2 * (b * d * f) ≠ 0 := Int.mul_ne_zero (Int.mul_ne_zero nw nv) (Int.mul_ne_zero (Int.mul_ne_zero nb nd) nf)
              refine Int.eq_of_mul_eq_mul_right K ?_
              have c1 : t1 * (s2 * f) * (w2 * v2 * (b * d * f)) = t1 * (w2 * v2) * (s2 * f * (b * d * f)) := by grind
              have c2 : (w1 * v2 + v1 * w2) * t2 * (s2 * f * (b * d * f)) = ((w1 * (b * f)) * (v2 * d * f) + (v1 * (d * f)) * (w2 * b * f)) * (t2 * s2) := by grind
              have c3 : ((a * e * w2) * (v2 * d * f) + (c * e * v2) * (w2 * b * f)) * (t2 * s2) = ((a * d + c * b) * s2) * (e * w2 * v2 * f * t2) := by grind
              have c4 : (s1 * (b * d)) * (e * w2 * v2 * f * t2) = s1 * e * t2 * (w2 * v2 * (b * d * f)) := by grind
              rw [c1, t5, c2, w5, v5, c3, ← s5, c4]
            have hr' : mulS s1 s2 e f = (t1, t2, 0) := by
              unfold mulS
              rw [if_pos ⟨s4, he⟩]
              exact ofS_is (Int.mul_ne_zero ns nf) t4 key
            rw [hr] at hr'
            simp only [Prod.mk.injEq] at hr'
            obtain ⟨rfl, rfl, rfl⟩ := hr'
            simp
          · simp only [q1, q2, q3, beq_false_of_ne q4, beq_self_eq_true, Bool.not_true, Bool.not_false, cond_true, cond_false, Bool.cond_self, _root_.id]
        · simp only [q1, q2, beq_false_of_ne q3, beq_self_eq_true, Bool.not_true, Bool.not_false, cond_true, cond_false, Bool.cond_self, _root_.id]
      · simp only [q1, beq_false_of_ne q2, beq_self_eq_true, Bool.not_true, Bool.not_false, cond_true, cond_false, Bool.cond_self, _root_.id]
    · simp only [beq_false_of_ne q1, beq_self_eq_true, Bool.not_true, Bool.not_false, cond_true, cond_false, Bool.cond_self, _root_.id]
  -- products taken together otherwise
  have j1 : partitalaw01_RatioTurns.J16 _root_.id (ratio_Add.f 1000) (ratio_Mul.f 1000) true (a, b) (c, d) (e, f) (s1, s2, s3) (m1, m2, m3) = some true := by
    obtain ⟨l1, l2, l3, hl, il1, il2, hLL⟩ := mul_any m1 m2 e f
    obtain ⟨r1, r2, r3, hr, ir1, ir2, hR⟩ := mul_any a b v1 v2
    unfold partitalaw01_RatioTurns.J16
    dsimp only
    rw [Mul_eq (by omega) im1 im2 ie jf, hl, Option.bind_some, Mul_eq (by omega) ic id ie jf, hv, Option.bind_some]
    dsimp only
    rw [Mul_eq (by omega) ia ib iv1 iv2, hr, Option.bind_some]
    dsimp only
    rw [j2]
    by_cases q1 : m3 = 0
    · by_cases q2 : l3 = 0
      · by_cases q3 : v3 = 0
        · subst q1 q2 q3
          obtain ⟨_, _, m4, m5⟩ := hM rfl
          obtain ⟨_, _, l4, l5⟩ := hLL rfl
          obtain ⟨_, _, v4, v5⟩ := hV rfl
          have nm := nz m4
          have nv := nz v4
          have key : l1 * (b * v2) = a * v1 * l2 := by
            have K : m2 * (d * f) ≠ 0 := Int.mul_ne_zero nm (Int.mul_ne_zero nd nf)
            refine Int.eq_of_mul_eq_mul_right K ?_
            have c1 : l1 * (b * v2) * (m2 * (d * f)) = (l1 * (m2 * f)) * (b * v2 * d) := by grind
            have c2 : m1 * e * l2 * (b * v2 * d) = (m1 * (b * d)) * (e * l2 * v2) := by grind
            have c3 : a * c * m2 * (e * l2 * v2) = (c * e * v2) * (a * m2 * l2) := by grind
            have c4 : v1 * (d * f) * (a * m2 * l2) = a * v1 * l2 * (m2 * (d * f)) := by grind
            rw [c1, l5, c2, m5, c3, ← v5, c4]
          have hr' : mulS a b v1 v2 = (l1, l2, 0) := by
            unfold mulS
            rw [if_pos ⟨ha, v4⟩]
            exact ofS_is (Int.mul_ne_zero nb nv) l4 key
          rw [hr] at hr'
          simp only [Prod.mk.injEq] at hr'
          obtain ⟨rfl, rfl, rfl⟩ := hr'
          simp
        · simp only [beq_false_of_ne q3, beq_self_eq_true, Bool.not_true, Bool.not_false, cond_true, cond_false, Bool.cond_self, _root_.id]
      · simp only [beq_false_of_ne q2, beq_self_eq_true, Bool.not_true, Bool.not_false, cond_true, cond_false, Bool.cond_self, _root_.id]
    · simp only [beq_false_of_ne q1, beq_self_eq_true, Bool.not_true, Bool.not_false, cond_true, cond_false, Bool.cond_self, _root_.id]
  -- sums taken together otherwise
  obtain ⟨l1, l2, l3, hl, il1, il2, hLL⟩ := add_any s1 s2 e f
  obtain ⟨u1, u2, u3, hu, iu1, iu2, hU⟩ := add_any c d e f
  obtain ⟨r1, r2, r3, hr, ir1, ir2, hR⟩ := add_any a b u1 u2
  rw [Add_eq (by omega) is1 is2 ie jf, hl, Option.bind_some, Add_eq (by omega) ic id ie jf, hu, Option.bind_some]
  dsimp only
  rw [Add_eq (by omega) ia ib iu1 iu2, hr, Option.bind_some]
  dsimp only
  rw [j1]
  by_cases q1 : s3 = 0
  · by_cases q2 : l3 = 0
    · by_cases q3 : u3 = 0
      · subst q1 q2 q3
        obtain ⟨_, _, s4, s5⟩ := hS rfl
        obtain ⟨_, _, l4, l5⟩ := hLL rfl
        obtain ⟨_, _, u4, u5⟩ := hU rfl
        have ns := nz s4
        have nu := nz u4
        have key : l1 * (b * u2) = (a * u2 + u1 * b) * l2 := by
          have K : s2 * (d * f) ≠ 0 := Int.mul_ne_zero ns (Int.mul_ne_zero nd nf)
          refine Int.eq_of_mul_eq_mul_right K ?_
          have c1 : l1 * (b * u2) * (s2 * (d * f)) = (l1 * (s2 * f)) * (b * u2 * d) := by grind
          have c2 : (s1 * f + e * s2) * l2 * (b * u2 * d) = ((s1 * (b * d)) * f + e * s2 * b * d) * (l2 * u2) := by grind
          have c3 : ((a * d + c * b) * s2 * f + e * s2 * b * d) * (l2 * u2) = a * d * f * s2 * l2 * u2 + ((c * f + e * d) * u2) * (b * s2 * l2) := by grind
          have c4 : a * d * f * s2 * l2 * u2 + (u1 * (d * f)) * (b * s2 * l2) = (a * u2 + u1 * b) * l2 * (s2 * (d * f)) := by grind
          rw [c1, l5, c2, s5, c3, ← u5, c4]
        have hr' : addS a b u1 u2 = (l1, l2, 0) := by
          unfold addS
          rw [if_pos ⟨ha, u4⟩]
          exact ofS_is (Int.mul_ne_zero nb nu) l4 key
        rw [hr] at hr'
        simp only [Prod.mk.injEq] at hr'
        obtain ⟨rfl, rfl, rfl⟩ := hr'
        simp
      · simp only [beq_false_of_ne q3, beq_self_eq_true, Bool.not_true, Bool.not_false, cond_true, cond_false, Bool.cond_self, _root_.id]
    · simp only [beq_false_of_ne q2, beq_self_eq_true, Bool.not_true, Bool.not_false, cond_true, cond_false, Bool.cond_self, _root_.id]
  · simp only [beq_false_of_ne q1, beq_self_eq_true, Bool.not_true, Bool.not_false, cond_true, cond_false, Bool.cond_self, _root_.id]

end Go.Proofs.YtofolkbappinhaaDoor.Pure
