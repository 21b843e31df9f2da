/- What is no right value has no length and no text; lengths of 0, below 0, too great, or too fine are not split; no condition. -/
import Derived.Test.YtajbnfidcpfonaaDoorV1
import Derived.Test.YtajbnfidcpfonaaDoorPureTrip
set_option linter.unusedVariables false
set_option linter.unusedSimpArgs false
namespace Go.Proofs.YtajbnfidcpfonaaDoor.Pure
open Go.RowKit Go.Proofs.Qx Go.Proofs.YtajbnfidcpfonaaDoor.M Go.Proofs.YtajbnfidcpfonaaDoorW.PrintWords Go.Proofs.YtajbnfidcpfonaaDoorW.PrintLast Go.Proofs.YtajbnfidcpfonaaDoorW.PrintMore

theorem wrI {x : Int} (h0 : -1000000000000 ≤ x) (h1 : x ≤ 1000000000000) : IntKind.i64.wrap x = x := by
  rw [Go.IntWalk.i64_left]; exact wr (by omega) (by omega)
set_option maxRecDepth 100000 in
theorem split_fine0 : (value_Split.f 250 1 704).map (fun r => (r.1.length, r.2)) = some (0, 41) := by decide +kernel
theorem split_fine : value_Split.f 250 1 704 = some ([], 41) := by
  have h := split_fine0
  obtain ⟨⟨l, e⟩, h1, h2⟩ := Option.map_eq_some_iff.1 h
  rw [h1]
  simp only [Prod.mk.injEq] at h2
  obtain ⟨h3, rfl⟩ := h2
  rw [List.length_eq_zero_iff.1 h3]
theorem split_k {k : Nat} (hk : 250 ≤ k) {p q : Int} {r : List S23 × Int} (h : value_Split.f 250 p q = some r) : value_Split.f k p q = some r := at_rounds (value_Split.mono _ _) hk h
theorem split_no {k : Nat} (hk : 160 ≤ k) {p q : Int} (hp : I64 p) (hq : I64 q) (h : ¬ Rt p q ∨ p ≤ 0 ∨ cmpS p q 64 1 > 0) : value_Split.f k p q = some ([], 41) := by
  obtain ⟨k, rfl⟩ : ∃ j, k = j + 1 := ⟨k - 1, by omega⟩
  unfold value_Split.f
  rw [right_eq (by omega) hp hq, Option.bind_some]
  by_cases hr : Rt p q
  · rw [if_pos (decide_eq_true hr)]
    by_cases h0 : p ≤ 0
    · rw [if_pos h0, value_Split.j0, if_pos rfl]
    · rw [if_neg h0, Compare_eq (by omega) hp hq ⟨by decide, by decide⟩ ⟨by decide, by decide⟩, Option.bind_some, value_Split.j0, if_pos (by
        rcases h with h | h | h
        · exact absurd hr h
        · exact absurd h h0
        · exact decide_eq_true h)]
  · rw [if_neg (by rw [decide_eq_false hr]; decide), value_Split.j0, if_pos rfl]
theorem Rt_1 {n : Int} (h : n.natAbs ≤ 1000000000) : Rt n 1 := ⟨by decide, h, by decide, Nat.gcd_one_right _⟩

theorem refused_tail (c : Int) (hc : I64 c) : qx_refused.t.J11 partitalaw04_pick.f (fun a0 a1 => (value_Split.f 299 a0 a1).map fun r => (r.1.map row23, r.2)) c true = some true := by
  obtain ⟨r, er, r0, r1⟩ := pickR (n := 1000000) hc (by decide) (by decide)
  have hR : Rt (64 + (1 + r)) 1 := Rt_1 (by omega)
  have hR2 : Rt 64 1 := Rt_1 (by decide)
  unfold qx_refused.t.J11
  rw [er, Option.bind_some, wrI (x := 1 + r) (by omega) (by omega), wrI (x := 0 - (1 + r)) (by omega) (by omega), wrI (x := 64 + (1 + r)) (by omega) (by omega)]
  simp only []
  rw [split_no (by omega) ⟨by omega, by omega⟩ ⟨by decide, by decide⟩ (.inr (.inl (by omega))), Option.map_some, Option.bind_some,
    split_no (by omega) ⟨by omega, by omega⟩ ⟨by decide, by decide⟩ (.inr (.inr (by unfold cmpS; rw [if_pos ⟨hR, hR2⟩, if_neg (by omega), if_pos (by omega)]; decide))), Option.map_some, Option.bind_some,
    split_no (by omega) ⟨by decide, by decide⟩ ⟨by decide, by decide⟩ (.inr (.inl (by decide))), Option.map_some, Option.bind_some,
    split_k (by omega) split_fine, Option.map_some, Option.bind_some,
    split_no (by omega) ⟨by omega, by omega⟩ ⟨by omega, by omega⟩ (.inl (fun h => by have := h.1; omega)), Option.map_some, Option.bind_some]
  rfl

theorem ValueRefused : partitalaw04_ValueRefused.Pure := by
  intro a0 a1 a2 a3 c d h0 h1 h2 h3 hc hd
  refine ⟨299, ?_⟩
  unfold qx_refused.f qx_refused.t
  rw [examples_k 99, Option.bind_some, Bool.not_true, cond_false]
  by_cases hv : VR a0 a1 a2 a3
  · obtain ⟨p, q, e, _, _⟩ := Length_R (k := 299) (by omega) hv
    obtain ⟨t, ht, _⟩ := Text_trip hv
    rw [e, Option.bind_some, text_at (by omega) ht, Option.bind_some, vright_eq (by omega), Option.bind_some, Option.bind_some, decide_eq_true hv]
    exact refused_tail c (wf64 hc)
  · rw [Length_no (by omega) hv, Option.bind_some, Text_no (by omega) hv, Option.bind_some, vright_eq (by omega), Option.bind_some, Option.bind_some, decide_eq_false hv]
    have e1 : (((⟨#[]⟩ : ByteArray).toList == (⟨#[]⟩ : ByteArray).toList)) = true := beq_self_eq_true _
    simp only [e1]
    exact refused_tail c (wf64 hc)
end Go.Proofs.YtajbnfidcpfonaaDoor.Pure
