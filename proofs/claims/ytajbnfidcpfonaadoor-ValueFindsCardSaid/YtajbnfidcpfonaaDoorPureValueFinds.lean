/- What is found is as long as it was asked to be; a plain value is found of its own length, a tuplet of three for two too; no condition. -/
import Derived.Test.YtajbnfidcpfonaaDoorM27
import Derived.Test.YtajbnfidcpfonaaDoorPureTrip
set_option linter.unusedVariables false
set_option linter.unusedSimpArgs false
namespace Go.Proofs.YtajbnfidcpfonaaDoor.Pure
open Go.RowKit Go.Proofs.YtajbnfidcpfonaaDoor.M Go.Proofs.YtajbnfidcpfonaaDoorW.PrintWords Go.Proofs.YtajbnfidcpfonaaDoorW.PrintLast Go.Proofs.YtajbnfidcpfonaaDoorW.PrintMore

def Kd (n m : Int) : Prop := (n = 0 ∧ m = 0) ∨ (2 ≤ n ∧ n ≤ 15 ∧ 1 ≤ m ∧ m ≤ 15 ∧ n ≠ m)
def Fd (a0 a1 : Int) (r : Int × Int × Int × Int × Bool) : Prop := r = (0, 0, 0, 0, false) ∨ ∃ b d n m e, r = (b, d, n, m, true) ∧ VR b d n m ∧ ofS (lnum d n m) (lden b d n) = (a0, a1, e)
theorem find_l2 {a0 a1 n m i : Int} {b : Nat} {k : Nat} (hk : 150 ≤ k) (hb : b < 7) (hn : Kd n m) (next : ∀ x y, ∃ r, value_Find.l1 k i ((b + 1 : Nat) : Int) a0 a1 x y n m = some r ∧ Fd a0 a1 r) :
    ∀ j d : Nat, d + j = 3 → ∀ x y, ∃ r, value_Find.l2 (k + j + 1) b i b d a0 a1 x y n m = some r ∧ Fd a0 a1 r := by
  intro j
  induction j with
  | zero =>
    intro d hd x y
    rw [value_Find.l2, if_neg (by omega), wr (x := (b : Int) + 1) (by omega) (by omega)]
    exact next x y
  | succ j ih =>
    intro d hd x y
    have hv : VR (b : Int) (d : Int) n m := ⟨by omega, by omega, by omega, by omega, hn⟩
    rw [show k + (j + 1) + 1 = (k + j + 1) + 1 from by omega, value_Find.l2, if_pos (by omega), Length_eq (by omega) hv, Option.bind_some, wr (x := (d : Int) + 1) (by omega) (by omega), show (d : Int) + 1 = ((d + 1 : Nat) : Int) from by omega]
    split
    · rename_i h
      simp only [Bool.and_eq_true, beq_iff_eq] at h
      exact ⟨_, rfl, .inr ⟨_, _, _, _, (ofS (lnum d n m) (lden b d n)).2.2, rfl, hv, by rw [← h.1, ← h.2]⟩⟩
    · exact ih (d + 1) (by omega) _ _
theorem find_l1 {a0 a1 n m : Int} {i : Nat} {k : Nat} (hk : 150 ≤ k) (hi : i < 4) (hn : Kd n m) (next : ∃ r, value_Find.l0 k ((i + 1 : Nat) : Int) a0 a1 = some r ∧ Fd a0 a1 r) :
    ∀ j b : Nat, b + j = 7 → ∀ x y, ∃ r, value_Find.l1 (k + 5 * j + 1) i b a0 a1 x y n m = some r ∧ Fd a0 a1 r := by
  intro j
  induction j with
  | zero =>
    intro b hb x y
    rw [show k + 5 * 0 + 1 = k + 1 from rfl, value_Find.l1, if_neg (by omega), wr (x := (i : Int) + 1) (by omega) (by omega)]
    exact next
  | succ j ih =>
    intro b hb x y
    rw [show k + 5 * (j + 1) + 1 = (k + 5 * j + 1 + 3 + 1) + 1 from by omega, value_Find.l1, if_pos (by omega)]
    exact find_l2 (by omega) (by omega) hn (fun x y => ih (b + 1) (by omega) x y) 3 0 rfl x y
theorem find_l0 (a0 a1 : Int) {k : Nat} (hk : 150 ≤ k) : ∀ j i : Nat, i + j = 4 → ∃ r, value_Find.l0 (k + 37 * j + 1) i a0 a1 = some r ∧ Fd a0 a1 r := by
  intro j
  induction j with
  | zero =>
    intro i hi
    rw [show k + 37 * 0 + 1 = k + 1 from rfl, value_Find.l0, if_neg (by omega)]
    exact ⟨_, rfl, .inl rfl⟩
  | succ j ih =>
    intro i hi
    rw [show k + 37 * (j + 1) + 1 = (k + 37 * j + 1 + 5 * 7 + 1) + 1 from by omega, value_Find.l0, if_pos (by omega)]
    have hn : Kd (kNum i) (kDen i) := by
      have : i = 0 ∨ i = 1 ∨ i = 2 ∨ i = 3 := by omega
      rcases this with rfl | rfl | rfl | rfl <;> unfold Kd <;> decide
    unfold value_kindsAt.f
    rw [if_pos ⟨by omega, by omega⟩, Option.bind_some]
    exact find_l1 (by omega) (by omega) hn (ih (i + 1) (by omega)) 7 0 rfl _ _
theorem find_any (a0 a1 : Int) : ∃ r, value_Find.f 299 a0 a1 = some r ∧ Fd a0 a1 r := by
  have h := find_l0 a0 a1 (k := 150) (by omega) 4 0 rfl
  rw [show 150 + 37 * 4 + 1 = 299 from rfl, show ((0 : Nat) : Int) = 0 from rfl] at h
  unfold value_Find.f value_kindsAll.f
  rw [Option.bind_some]
  exact h
def fcore (b d : Int) : Option Bool := partitalaw04_ValueFinds.J14 _root_.id (value_Find.f 299) (value_Length.f 299) (fun _ _ _ _ => some (b, d, 0, 0)) (partitalaw04_length.f 299) 0 0 0 0 true
set_option maxRecDepth 100000 in
theorem fall : ∀ b ∈ List.range 7, ∀ d ∈ List.range 3, fcore (b : Int) (d : Int) = some true := by decide +kernel
theorem ValueFinds : partitalaw04_ValueFinds.Pure := by
  intro a0 a1 a2 a3 a4 a5 h0 h1 h2 h3 h4 h5
  refine ⟨299, ?_⟩
  obtain ⟨b, d, n, m, e, hv⟩ := Value_eq (wf64 h0) (wf64 h1) (wf64 h2) (wf64 h3)
  obtain ⟨r, er, hr⟩ := find_any a4 a5
  have hf := fall b.toNat (List.mem_range.2 (by have := hv.1; have := hv.2.1; omega)) d.toNat (List.mem_range.2 (by have := hv.2.2.1; have := hv.2.2.2.1; omega))
  rw [show ((b.toNat : Nat) : Int) = b by have := hv.1; omega, show ((d.toNat : Nat) : Int) = d by have := hv.2.2.1; omega] at hf
  have hJ : partitalaw04_ValueFinds.J14 _root_.id (value_Find.f 299) (value_Length.f 299) partitalaw04_Value.f (partitalaw04_length.f 299) a0 a1 a2 a3 true = some true := by
    unfold fcore partitalaw04_ValueFinds.J14 at hf
    unfold partitalaw04_ValueFinds.J14
    rw [e, Option.bind_some]
    simpa only [Option.bind_some] using hf
  unfold partitalaw04_ValueFinds.f partitalaw04_ValueFinds.t
  rw [examples_k 99]
  rcases hr with rfl | ⟨b', d', n', m', x, rfl, hv', el⟩
  · simp only [Option.bind_some, Bool.not_true, cond_false, cond_true, er, Length_eq (k := 299) (by omega) (show VR 0 0 0 0 by unfold VR; decide), Bool.not_false]
    unfold partitalaw04_ValueFinds.J15
    simpa only [beq_self_eq_true, Bool.and_self, Bool.not_true, cond_false] using hJ
  · simp only [Option.bind_some, Bool.not_true, cond_false, cond_true, er, Length_eq (k := 299) (by omega) hv', el, beq_self_eq_true, Bool.and_self, vright_eq (k := 299) (by omega), decide_eq_true hv']
    exact hJ

end Go.Proofs.YtajbnfidcpfonaaDoor.Pure
