/- What is shown is read back; what is read is shown as it was; no condition. -/
import Derived.Test.YtajbnfidcpfonaaDoorM29
import Derived.Test.YtajbnfidcpfonaaDoorPureRead
set_option linter.unusedVariables false
set_option linter.unusedSimpArgs false
namespace Go.Proofs.YtajbnfidcpfonaaDoor.Pure
open Go.RowKit Go.Proofs.YtajbnfidcpfonaaDoor.M Go.Proofs.YtajbnfidcpfonaaDoorW.PrintWords Go.Proofs.YtajbnfidcpfonaaDoorW.PrintLast Go.Proofs.YtajbnfidcpfonaaDoorW.PrintMore

theorem same_bytes {a b : ByteArray} (h : a.toList = b.toList) : a = b := by
  rw [ByteArray.toList_eq, ByteArray.toList_eq] at h
  obtain ⟨⟨x⟩⟩ := a
  obtain ⟨⟨y⟩⟩ := b
  obtain rfl : x = y := h
  rfl
theorem ValueText : partitalaw04_ValueText.Pure := by
  intro a0 a1 a2 a3 b0 b1 b2 b3 s h0 h1 h2 h3 g0 g1 g2 g3 hs
  refine ⟨299, ?_⟩
  obtain ⟨b, d, n, m, e, hv⟩ := Value_eq (wf64 h0) (wf64 h1) (wf64 h2) (wf64 h3)
  obtain ⟨b', d', n', m', e', hv'⟩ := Value_eq (wf64 g0) (wf64 g1) (wf64 g2) (wf64 g3)
  obtain ⟨t, ht, hr⟩ := Text_trip hv
  obtain ⟨u, hu, hr'⟩ := Text_trip hv'
  have hm : ∃ q : Int, (if (30 : Int) < (s.size : Int) then (30 : Int) else (s.size : Int)) = q ∧ 0 ≤ q ∧ q ≤ (s.size : Int) ∧ q ≤ 30 := ⟨_, rfl, by split <;> omega, by split <;> omega, by split <;> omega⟩
  obtain ⟨q, eq, q0, q1, q2⟩ := hm
  obtain ⟨r, er, hok⟩ := read_any (k := 299) (by omega) (s.extract (Int.toNat 0) q.toNat) (by rw [ByteArray.size_extract]; omega)
  obtain ⟨z0, z1, z2, z3, ze⟩ := r
  unfold partitalaw04_ValueText.f partitalaw04_ValueText.t
  rw [examples_k 99, eq]
  simp only [Option.bind_some, Bool.not_true, cond_false, e, e', text_at (k := 299) (by omega) ht, text_at (k := 299) (by omega) hu, read_at (k := 299) (by omega) hr, er, if_pos (And.intro q0 q1), if_pos (And.intro (Int.le_refl 0) q0), beq_self_eq_true, Bool.and_self, cond_true]
  have hq : (!(t.toList == u.toList) == (b == b' && (d == d' && (n == n' && (m == m' && true))))) = false := by
    by_cases hh : b = b' ∧ d = d' ∧ n = n' ∧ m = m'
    · obtain ⟨rfl, rfl, rfl, rfl⟩ := hh
      rw [ht] at hu
      have : t = u := by have := Option.some.inj hu; exact (Prod.mk.inj this).1
      subst this
      simp
    · have h1 : ¬ t.toList = u.toList := by
        intro hl
        have := same_bytes hl
        subst this
        rw [hr] at hr'
        have := Option.some.inj hr'
        simp only [Prod.mk.injEq] at this
        exact hh ⟨this.1, this.2.1, this.2.2.1, this.2.2.2.1⟩
      rw [beq_eq_false_iff_ne.2 h1]
      have h2 : (b == b' && (d == d' && (n == n' && (m == m' && true)))) = false := by
        cases hc : (b == b' && (d == d' && (n == n' && (m == m' && true))))
        · rfl
        · simp only [Bool.and_eq_true, beq_iff_eq] at hc; exact absurd ⟨hc.1, hc.2.1, hc.2.2.1, hc.2.2.2.1⟩ hh
      rw [h2]; rfl
  have hz : ∃ w, value_Text.f 299 z0 z1 z2 z3 = some w := by
    by_cases hv2 : VR z0 z1 z2 z3
    · obtain ⟨w, hw, _⟩ := Text_trip hv2; exact ⟨_, text_at (by omega) hw⟩
    · exact ⟨_, Text_no (by omega) hv2⟩
  rcases hok with ⟨he0, hV, w, hw, hl⟩ | he
  · dsimp only at he0 hV hw
    simp only [text_at (k := 299) (by omega) hw, Option.bind_some, hq, cond_false, cond_true, he0, beq_self_eq_true, vright_eq (k := 299) (by omega), decide_eq_true hV, hl, Bool.not_true, Bool.and_self, Bool.cond_self, id, _root_.id]
  · simp only [Prod.mk.injEq] at he
    obtain ⟨rfl, rfl, rfl, rfl, rfl⟩ := he
    obtain ⟨w, hw⟩ := hz
    simp only [hw, Option.bind_some, hq, cond_false, cond_true, beq_self_eq_true, Bool.not_true, Bool.and_self, Bool.cond_self, show ((12 : Int) == 0) = false from rfl, id, _root_.id]

end Go.Proofs.YtajbnfidcpfonaaDoor.Pure
