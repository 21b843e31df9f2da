import Derived.Test.YtphlamnaaogmaaaGreatDoorPuD
import Derived.Test.YtphlamnaaogmaaaGreatDoorE21
namespace Go.Proofs.YtphlamnaaogmaaaGreatDoor.M
open Go Go.RowKit Go.Proofs Go.Proofs.Qx Go.Proofs.El
set_option linter.unusedVariables false
set_option linter.unusedSimpArgs false

theorem wf64 {x : Int} (h : (Lit.int .i64 x).wf = true) : -9223372036854775808 ≤ x ∧ x ≤ 9223372036854775807 := by
  have h : IntKind.i64.min ≤ x ∧ x ≤ IntKind.i64.max := by simpa [Lit.wf] using h
  exact h
theorem signs_chain (f16 : ByteArray → List (List D) → ByteArray → List (List D) → ByteArray → Option (ByteArray × Bool)) (v1 : Bool) (v5 v6 : ByteArray × List (List D) × ByteArray × List (List D) × Int × Int) (m : Nat) :
    (bif decide ((m : Int) ≤ (1114111 : Int)) then bif decide ((m : Int) < (55296 : Int)) then bif decide ((m : Int) ≥ (32 : Int)) then zI.t.J12 f16 v1 v5 v6 (signB (sign m)) else bif (m : Int) == (9 : Int) then zI.t.J12 f16 v1 v5 v6 (signB (sign m)) else bif (m : Int) == (10 : Int) then zI.t.J12 f16 v1 v5 v6 (signB (sign m)) else zI.t.J11 f16 v1 (m : Int) v5 v6 (signB (sign m)) else bif decide ((m : Int) > (57343 : Int)) then bif decide ((m : Int) ≥ (32 : Int)) then zI.t.J12 f16 v1 v5 v6 (signB (sign m)) else bif (m : Int) == (9 : Int) then zI.t.J12 f16 v1 v5 v6 (signB (sign m)) else bif (m : Int) == (10 : Int) then zI.t.J12 f16 v1 v5 v6 (signB (sign m)) else zI.t.J11 f16 v1 (m : Int) v5 v6 (signB (sign m)) else zI.t.J10 f16 v1 v5 v6 (signB (sign m)) else zI.t.J10 f16 v1 v5 v6 (signB (sign m))) = zI.t.J9 f16 v1 v5 v6 (signB (sign m)) := by
  have hs := sign_none m
  have h12 : sign m ≠ none → zI.t.J12 f16 v1 v5 v6 (signB (sign m)) = zI.t.J9 f16 v1 v5 v6 (signB (sign m)) := by
    intro h
    cases hv : sign m with
    | none => exact absurd hv h
    | some v => exact of_eq_true (eq_self _)
  have h10 : sign m = none → zI.t.J10 f16 v1 v5 v6 (signB (sign m)) = zI.t.J9 f16 v1 v5 v6 (signB (sign m)) := by
    intro h
    rw [h]; exact of_eq_true (eq_self _)
  have h11 : ((m : Int) == 13) = (sign m).isSome → zI.t.J11 f16 v1 (m : Int) v5 v6 (signB (sign m)) = zI.t.J9 f16 v1 v5 v6 (signB (sign m)) := by
    intro h
    unfold zI.t.J11
    rw [h]
    cases sign m <;> exact of_eq_true (eq_self _)
  have e9 : ((m : Int) == 9) = (m == 9) := beq_cast m 9
  have e10 : ((m : Int) == 10) = (m == 10) := beq_cast m 10
  have e13 : ((m : Int) == 13) = (m == 13) := beq_cast m 13
  rw [e9, e10]
  have low : m < 32 → (bif m == 9 then zI.t.J12 f16 v1 v5 v6 (signB (sign m)) else bif m == 10 then zI.t.J12 f16 v1 v5 v6 (signB (sign m)) else zI.t.J11 f16 v1 (m : Int) v5 v6 (signB (sign m))) = zI.t.J9 f16 v1 v5 v6 (signB (sign m)) := by
    intro h32
    cases h9 : m == 9 with
    | true => rw [cT, h12]; rw [Ne, hs]; rw [beq_iff_eq] at h9; omega
    | false =>
      rw [cF]
      cases h10' : m == 10 with
      | true => rw [cT, h12]; rw [Ne, hs]; rw [beq_iff_eq] at h10'; omega
      | false =>
        rw [cF, h11]
        rw [e13]
        rw [beq_eq_false_iff_ne] at h9 h10'
        cases hv : sign m with
        | none =>
          rw [hs] at hv
          exact beq_eq_false_iff_ne.2 (by omega)
        | some v =>
          have : sign m ≠ none := by rw [hv]; simp
          rw [Ne, hs] at this
          exact beq_iff_eq.2 (by omega)
  by_cases h1 : m ≤ 1114111
  · rw [decide_eq_true (show (m : Int) ≤ 1114111 by omega), cT]
    by_cases h2 : m < 55296
    · rw [decide_eq_true (show (m : Int) < 55296 by omega), cT]
      by_cases h3 : 32 ≤ m
      · rw [decide_eq_true (show (m : Int) ≥ 32 by omega), cT, h12]; rw [Ne, hs]; omega
      · rw [decide_eq_false (show ¬ (m : Int) ≥ 32 by omega), cF, low (by omega)]
    · rw [decide_eq_false (show ¬ (m : Int) < 55296 by omega), cF]
      by_cases h3 : 57343 < m
      · rw [decide_eq_true (show (m : Int) > 57343 by omega), cT, decide_eq_true (show (m : Int) ≥ 32 by omega), cT, h12]; rw [Ne, hs]; omega
      · rw [decide_eq_false (show ¬ (m : Int) > 57343 by omega), cF, h10]; rw [hs]; omega
  · rw [decide_eq_false (show ¬ (m : Int) ≤ 1114111 by omega), cF, h10]; rw [hs]; omega

theorem elemSigns_pure : zI.Pure := by
  intro a0 w0
  refine ⟨1000, ?_⟩
  obtain ⟨m, hm, hp⟩ := pick_eq 1000 a0 (wf64 w0) 1200000 (by omega) (by omega)
  show zI.t 1000 _ _ _ _ _ _ _ a0 = some true
  unfold zI.t
  rw [awake_eq 1000 (by omega), Option.bind_some]
  have hp' : z7.f 1000 a0 (1200000 : Int) = some (m : Int) := hp
  have hd : (decS m).length ≤ 7 := digs_len 7 m
  have hh : (hexS m).length ≤ 6 := digs_len 6 m
  rw [hp', Option.bind_some, decimal_eq 7 m 1000 (by omega) (by omega) (by omega) (by omega) (by omega), Option.bind_some, hexadecimal_eq 6 m 1000 (by omega) (by omega) (by omega) (by omega) (by omega), Option.bind_some]
  change (digs dec10 10 7 m).length ≤ 7 at hd
  change (digs dec16 16 6 m).length ≤ 6 at hh
  rw [show ByteArray.mk #[60, 97, 32, 98, 61, 39, 38, 35] = tb [60, 97, 32, 98, 61, 39, 38, 35] from rfl, show ByteArray.mk #[59, 39, 62, 38, 35, 120] = tb [59, 39, 62, 38, 35, 120] from rfl, show ByteArray.mk #[59, 60, 47, 97, 62] = tb [59, 60, 47, 97, 62] from rfl, show ByteArray.mk #[60, 97, 62, 38, 35] = tb [60, 97, 62, 38, 35] from rfl]
  simp only [tb_append, size_tb]
  rw [no_over (by simp; omega), no_over (by simp; omega), no_over (by simp; omega), no_over (by simp; omega)]
  rw [elem_Parse_eq 1000 _ (by simp; omega) (by simp; omega), Option.bind_some]
  rw [no_over (by simp; omega), no_over (by simp; omega)]
  rw [elem_Parse_eq 1000 _ (by simp; omega) (by simp; omega), Option.bind_some]
  rw [ref_Sign_eq, Option.bind_some, signs_chain]
  have t1 := sign_text_read (n := m) (by omega)
  have t2 := sign_both_read (n := m) (by omega) (by omega)
  unfold decS at t1 t2
  unfold hexS at t2
  cases hs : sign m with
  | none =>
    obtain ⟨r1, e1⟩ := t1.2 hs
    obtain ⟨r2, e2⟩ := t2.2 hs
    rw [e1, e2]
    rfl
  | some v =>
    rw [t1.1 v hs, t2.1 v hs]
    have hf := elem_Find_eq 1000 (tb [97]) (tb v) [] [([98], v)] [98] (by simp) (by simp)
    unfold zI.t.J9
    change (zZ.f 1000 (tb [97]) ([([98], v)].map encA) (tb v) [] (tb [98])).bind _ = _
    rw [hf]
    simp only [Option.bind_some, signB, parsed, Prod.r5, Prod.q1, Prod.q2, El.El.text, tbEq, findA, beq_self_eq_true, cond_true]
end Go.Proofs.YtphlamnaaogmaaaGreatDoor.M
