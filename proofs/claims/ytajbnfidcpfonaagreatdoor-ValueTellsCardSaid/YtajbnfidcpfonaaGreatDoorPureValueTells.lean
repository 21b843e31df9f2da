/- For any value, length and text: what the program tells is what the document says; no condition. -/
import Derived.Test.YtajbnfidcpfonaaGreatDoorZ4
import Derived.Test.YtajbnfidcpfonaaGreatDoorPureRefFind
import Derived.Test.YtajbnfidcpfonaaGreatDoorPureRefRead
set_option linter.unusedVariables false
set_option linter.unusedSimpArgs false
namespace Go.Proofs.YtajbnfidcpfonaaGreatDoor.Pure
open Go.RowKit Go.Proofs.Qx Go.Proofs.YtajbnfidcpfonaaGreatDoor.M Go.Proofs.YtajbnfidcpfonaaGreatDoorW.PrintWords Go.Proofs.YtajbnfidcpfonaaGreatDoorW.PrintLast Go.Proofs.YtajbnfidcpfonaaGreatDoorW.PrintMore
set_option maxRecDepth 100000

theorem ex_k : partitalaw04_examples.f 50000 = some true := examples_k 49800
/-- A value, and its length, text, right: as the document says. -/
theorem val_both {b d n m : Int} : ∃ p q e t c r, value_Length.f 50000 b d n m = some (p, q, e) ∧ r4_Length.f 50000 b d n m = some (p, q, e) ∧ I64 p ∧ I64 q ∧ value_Text.f 50000 b d n m = some (t, c) ∧ r4_Text.f 50000 b d n m = some (t, c) ∧ value_Right.f 50000 b d n m = some r ∧ r4_Right.f 50000 b d n m = some r := by
  have hl : ∃ p q e, (if VR b d n m then ofS (lnum d n m) (lden b d n) else (0, 0, 40)) = (p, q, e) ∧ I64 p ∧ I64 q := by
    by_cases hv : VR b d n m
    · have hb := l_bd hv
      obtain ⟨p, q, e, hr, _⟩ := reduce (n := lnum d n m) (d := lden b d n) (by omega) (by omega) (by omega)
      rw [if_pos hv]
      exact ⟨p, q, 0, e, (Rt_I64 hr).1, (Rt_I64 hr).2⟩
    · rw [if_neg hv]
      exact ⟨0, 0, 40, rfl, ⟨by decide, by decide⟩, ⟨by decide, by decide⟩⟩
  obtain ⟨p, q, e, el, hp, hq⟩ := hl
  have ht : ∃ t c, value_Text.f 50000 b d n m = some (t, c) ∧ r4_Text.f 50000 b d n m = some (t, c) := by
    by_cases hv : VR b d n m
    · obtain ⟨t, q1, _, q3, _⟩ := text4 hv
      exact ⟨t, 0, text_at (by omega) q1, q3⟩
    · exact ⟨_, _, Text_no (by omega) hv, text4_no hv⟩
  obtain ⟨t, c, h1, h2⟩ := ht
  exact ⟨p, q, e, t, c, _, by rw [Length1 (by omega), el], by rw [Length4 (by omega), el], hp, hq, h1, h2, vright_eq (by omega) _ _ _ _, right4 _ _ _ _ _⟩
abbrev L10 := z_tells.L10 50000 (partitalaw04_examples.f 50000) (value_Read.f 50000) (r4_Read.f 50000) (z_Value.f 50000) (value_Length.f 50000) (r4_Length.f 50000) (value_Text.f 50000) (r4_Text.f 50000) (value_Right.f 50000) (r4_Right.f 50000) (z_split.f 50000) (partitaref01_Of.f 50000) partitalaw04_pick.f
theorem tells_loop (x0 x1 : Bool) (a4 a5 b0 b1 b2 b3 c0 c1 c2 c3 : Int) : L10 50000 (x0, x1, 2, 0, a4, a5, b0, b1, b2, b3, c0, c1, c2, c3) = some (.inl (x0, x1, a4, a5)) := by
  obtain ⟨p, q, e, t, c, r, g1, g2, hp, hq, g3, g4, g5, g6⟩ := val_both (b := b0) (d := b1) (n := b2) (m := b3)
  obtain ⟨p', q', e', t', c', r', g1', g2', hp', hq', g3', g4', g5', g6'⟩ := val_both (b := c0) (d := c1) (n := c2) (m := c3)
  have s1 := split_both (k := 50000) (by omega) hp hq
  have s2 := split_both (k := 50000) (by omega) hp' hq'
  have one : ∀ k, L10 (k + 1) (x0, x1, 2, 0, a4, a5, b0, b1, b2, b3, c0, c1, c2, c3) = L10 k (x0, x1, 2, 1, a4, a5, b0, b1, b2, b3, c0, c1, c2, c3) := by
    intro k
    rw [L10, z_tells.L10]
    dsimp only
    rw [z_tells.L10.S, show decide ((0 : Int) < 2) = true from rfl, cond_true, if_neg (by decide), if_pos (show (0 : Int) = ((nat_lit 0 : Nat) : Int) from rfl), g1, Option.bind_some, g2, Option.bind_some, g3, Option.bind_some, g4, Option.bind_some, g5, Option.bind_some, g6, Option.bind_some]
    simp only [beq_self_eq_true, Bool.and_self, Bool.not_true, cond_false]
    rw [s1, Option.bind_some, Bool.not_true, cond_false, show IntKind.i64.wrap ((0 : Int) + 1) = 1 from rfl]
  have two : ∀ k, L10 (k + 1) (x0, x1, 2, 1, a4, a5, b0, b1, b2, b3, c0, c1, c2, c3) = L10 k (x0, x1, 2, 2, a4, a5, b0, b1, b2, b3, c0, c1, c2, c3) := by
    intro k
    rw [L10, z_tells.L10]
    dsimp only
    rw [z_tells.L10.S, show decide ((1 : Int) < 2) = true from rfl, cond_true, if_pos (show (1 : Int) = ((nat_lit 1 : Nat) : Int) from rfl), g1', Option.bind_some, g2', Option.bind_some, g3', Option.bind_some, g4', Option.bind_some, g5', Option.bind_some, g6', Option.bind_some]
    simp only [beq_self_eq_true, Bool.and_self, Bool.not_true, cond_false]
    rw [s2, Option.bind_some, Bool.not_true, cond_false, show IntKind.i64.wrap ((1 : Int) + 1) = 2 from rfl]
  have three : ∀ k, L10 (k + 1) (x0, x1, 2, 2, a4, a5, b0, b1, b2, b3, c0, c1, c2, c3) = some (.inl (x0, x1, a4, a5)) := by
    intro k
    rw [L10, z_tells.L10]
    dsimp only
    rw [z_tells.L10.S, show decide ((2 : Int) < 2) = false from rfl, cond_false]
  rw [show (50000 : Nat) = 49999 + 1 from rfl, one, show (49999 : Nat) = 49998 + 1 from rfl, two, show (49998 : Nat) = 49997 + 1 from rfl, three]
theorem Of_split (x y : Int) (hx : I64 x) (hy : 1 ≤ y ∧ y ≤ 1000000) : ∃ r, partitaref01_Of.f 50000 x y = some r ∧ z_split.f 50000 r.1 r.2.1 = some true := by
  have hy' : I64 y := ⟨by omega, by omega⟩
  refine ⟨_, rOf_eq (by omega) hx hy', ?_⟩
  rcases ofS_spec x (den := y) (by omega) with ⟨p, q, e, hr, _⟩ | ⟨e, _⟩
  · rw [e]; exact split_both (by omega) (Rt_I64 hr).1 (Rt_I64 hr).2
  · rw [e]; exact split_both (by omega) ⟨by decide, by decide⟩ ⟨by decide, by decide⟩
theorem ValueTells : partitalaw04_ValueTells.Pure := by
  intro a0 a1 a2 a3 a4 a5 s h0 h1 h2 h3 h4 h5 hs
  refine ⟨50000, ?_⟩
  have i4 := wf64 h4
  have i5 := wf64 h5
  have hm : ∃ q : Int, (if (30 : Int) < (s.size : Int) then (30 : Int) else (s.size : Int)) = q ∧ 0 ≤ q ∧ q ≤ (s.size : Int) ∧ q ≤ 30 := ⟨_, rfl, by split <;> omega, by split <;> omega, by split <;> omega⟩
  obtain ⟨q, eq, q0, q1, q2⟩ := hm
  obtain ⟨r, er, er'⟩ := read_both (s.extract (Int.toNat 0) q.toNat) (by rw [ByteArray.size_extract]; omega)
  obtain ⟨b, d, n, m, ev, hv⟩ := Value_eq (k := 50000) (wf64 h0) (wf64 h1) (wf64 h2) (wf64 h3)
  obtain ⟨p1, e1, l1, u1⟩ := pickR (n := 4097) i4 (by decide) (by decide)
  obtain ⟨p2, e2, l2, u2⟩ := pickR (n := 420) i5 (by decide) (by decide)
  obtain ⟨p3, e3, l3, u3⟩ := pickR (n := 600) i4 (by decide) (by decide)
  obtain ⟨r1, o1, s1⟩ := Of_split p1 (1 + p2) ⟨by omega, by omega⟩ ⟨by omega, by omega⟩
  obtain ⟨r2, o2, s2⟩ := Of_split p3 64 ⟨by omega, by omega⟩ ⟨by omega, by omega⟩
  have hl := tells_loop false true a4 a5 a0 a1 a2 a3 b d n m
  unfold z_tells.f z_tells.t
  rw [ex_k, Option.bind_some, Bool.not_true, cond_false, eq, if_pos ⟨q0, q1⟩, if_pos ⟨Int.le_refl 0, q0⟩, er, Option.bind_some, er', Option.bind_some]
  simp only [beq_self_eq_true, Bool.and_self, Bool.not_true, cond_false]
  rw [ev, Option.bind_some]
  dsimp only
  unfold L10 at hl
  rw [ex_k] at hl
  rw [show ((2 : Nat) : Int) = 2 from rfl, hl, Option.bind_some]
  dsimp only [Sum.elim_inl]
  rw [e1, Option.bind_some, e2, Option.bind_some, wrI (x := 1 + p2) (by omega) (by omega), o1, Option.bind_some, e3, Option.bind_some, o2, Option.bind_some, cond_true, split_both (k := 50000) (by omega) i4 i5, Option.bind_some, cond_true, s1, Option.bind_some, cond_true, s2, Option.bind_some]

end Go.Proofs.YtajbnfidcpfonaaGreatDoor.Pure
