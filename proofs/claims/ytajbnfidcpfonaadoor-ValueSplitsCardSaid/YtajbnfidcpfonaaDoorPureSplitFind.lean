/- What is found of a length that splits is what it is split into. -/
import Derived.Test.YtajbnfidcpfonaaDoorM7
import Derived.Test.YtajbnfidcpfonaaDoorPureSplitSum
set_option linter.unusedVariables false
set_option linter.unusedSimpArgs false
namespace Go.Proofs.YtajbnfidcpfonaaDoor.Pure
open Go.RowKit Go.Proofs.Qx Go.Proofs.YtajbnfidcpfonaaDoor.M Go.Proofs.YtajbnfidcpfonaaDoorW.PrintWords Go.Proofs.YtajbnfidcpfonaaDoorW.PrintLast Go.Proofs.YtajbnfidcpfonaaDoorW.PrintMore

def Fk (a0 a1 : Int) (r : Int × Int × Int × Int × Bool) : Prop := r = (0, 0, 0, 0, false) ∨ ∃ b d n m e, r = (b, d, n, m, true) ∧ (b, d) ∈ pairs ∧ K4 n m ∧ ofS (lnum d n m) (lden b d n) = (a0, a1, e)
theorem find_l2 {a0 a1 n m i : Int} {b : Nat} {k : Nat} (hk : 150 ≤ k) (hb : b < 7) (hn : K4 n m) (next : ∀ x y, ∃ r, value_Find.l1 k i ((b + 1 : Nat) : Int) a0 a1 x y n m = some r ∧ Fk a0 a1 r) :
    ∀ j d : Nat, d + j = 3 → ∀ x y, ∃ r, value_Find.l2 (k + j + 1) b i b d a0 a1 x y n m = some r ∧ Fk a0 a1 r := by
  intro j
  induction j with
  | zero =>
    intro d hd x y
    rw [value_Find.l2, if_neg (by omega), wr (x := (b : Int) + 1) (by omega) (by omega)]
    exact next x y
  | succ j ih =>
    intro d hd x y
    have hp : ((b : Int), (d : Int)) ∈ pairs := mem_pairs ⟨by omega, by omega⟩ ⟨by omega, by omega⟩
    have hv : VR (b : Int) (d : Int) n m := VRk hp hn
    rw [show k + (j + 1) + 1 = (k + j + 1) + 1 from by omega, value_Find.l2, if_pos (by omega), Length_eq (by omega) hv, Option.bind_some, wr (x := (d : Int) + 1) (by omega) (by omega), show (d : Int) + 1 = ((d + 1 : Nat) : Int) from by omega]
    split
    · rename_i h
      simp only [Bool.and_eq_true, beq_iff_eq] at h
      exact ⟨_, rfl, .inr ⟨_, _, _, _, (ofS (lnum d n m) (lden b d n)).2.2, rfl, hp, hn, by rw [← h.1, ← h.2]⟩⟩
    · exact ih (d + 1) (by omega) _ _
theorem find_l1 {a0 a1 n m : Int} {i : Nat} {k : Nat} (hk : 150 ≤ k) (hi : i < 4) (hn : K4 n m) (next : ∃ r, value_Find.l0 k ((i + 1 : Nat) : Int) a0 a1 = some r ∧ Fk a0 a1 r) :
    ∀ j b : Nat, b + j = 7 → ∀ x y, ∃ r, value_Find.l1 (k + 5 * j + 1) i b a0 a1 x y n m = some r ∧ Fk a0 a1 r := by
  intro j
  induction j with
  | zero =>
    intro b hb x y
    rw [show k + 5 * 0 + 1 = k + 1 from rfl, value_Find.l1, if_neg (by omega), wr (x := (i : Int) + 1) (by omega) (by omega)]
    exact next
  | succ j ih =>
    intro b hb x y
    rw [show k + 5 * (j + 1) + 1 = (k + 5 * j + 1 + 3 + 1) + 1 from by omega, value_Find.l1, if_pos (by omega)]
    exact find_l2 (by omega) (by omega) hn (fun x y => ih (b + 1) (by omega) x y) 3 0 rfl x y
theorem find_l0 (a0 a1 : Int) {k : Nat} (hk : 150 ≤ k) : ∀ j i : Nat, i + j = 4 → ∃ r, value_Find.l0 (k + 37 * j + 1) i a0 a1 = some r ∧ Fk a0 a1 r := by
  intro j
  induction j with
  | zero =>
    intro i hi
    rw [show k + 37 * 0 + 1 = k + 1 from rfl, value_Find.l0, if_neg (by omega)]
    exact ⟨_, rfl, .inl rfl⟩
  | succ j ih =>
    intro i hi
    rw [show k + 37 * (j + 1) + 1 = (k + 37 * j + 1 + 5 * 7 + 1) + 1 from by omega, value_Find.l0, if_pos (by omega)]
    have hn : K4 (kNum i) (kDen i) := by
      have : i = 0 ∨ i = 1 ∨ i = 2 ∨ i = 3 := by omega
      rcases this with rfl | rfl | rfl | rfl <;> unfold K4 <;> decide
    unfold value_kindsAt.f
    rw [if_pos ⟨by omega, by omega⟩, Option.bind_some]
    exact find_l1 (by omega) (by omega) hn (ih (i + 1) (by omega)) 7 0 rfl _ _
theorem find_any {k : Nat} (hk : 299 ≤ k) (a0 a1 : Int) : ∃ r, value_Find.f k a0 a1 = some r ∧ Fk a0 a1 r := by
  have h := find_l0 a0 a1 (k := 150) (by omega) 4 0 rfl
  rw [show 150 + 37 * 4 + 1 = 299 from rfl, show ((0 : Nat) : Int) = 0 from rfl] at h
  have : ∃ r, value_Find.f 299 a0 a1 = some r ∧ Fk a0 a1 r := by
    unfold value_Find.f value_kindsAll.f
    rw [Option.bind_some]
    exact h
  obtain ⟨r, h1, h2⟩ := this
  exact ⟨r, at_rounds (value_Find.mono _ _) hk h1, h2⟩
/-- All that can be found: by the kernel. -/
def findOk (b d n m : Int) : Bool := match value_Length.f 150 b d n m with
  | some (p, q, _) => (match value_Find.f 299 p q with
    | some (b', d', n', m', true) => (spl p q).2 == 41 || (match (spl p q).1 with
      | [⟨b2, d2, n2, m2⟩] => b2 == b' && d2 == d' && n2 == n' && m2 == m'
      | _ => false)
    | _ => false)
  | none => false
theorem find_all : ∀ p ∈ pairs, (findOk p.1 p.2 0 0 && findOk p.1 p.2 3 2 && findOk p.1 p.2 5 4 && findOk p.1 p.2 7 4) = true := by decide +kernel
theorem find_ok {b d n m : Int} (h : (b, d) ∈ pairs) (hn : K4 n m) : findOk b d n m = true := by
  have := find_all _ h
  simp only [Bool.and_eq_true] at this
  rcases hn with ⟨rfl, rfl⟩ | ⟨rfl, rfl⟩ | ⟨rfl, rfl⟩ | ⟨rfl, rfl⟩
  · exact this.1.1.1
  · exact this.1.1.2
  · exact this.1.2
  · exact this.2
theorem find_split {k : Nat} (hk : 299 ≤ k) {p q : Int} (hs : (spl p q).2 = 0) : ∃ b d n m t, value_Find.f k p q = some (b, d, n, m, t) ∧ (t = true → (spl p q).1 = [⟨b, d, n, m⟩]) := by
  obtain ⟨r, e, hF⟩ := find_any (k := 299) (Nat.le_refl _) p q
  rcases hF with rfl | ⟨b, d, n, m, x, rfl, hp, hn, ho⟩
  · exact ⟨0, 0, 0, 0, false, at_rounds (value_Find.mono _ _) hk e, fun h => by cases h⟩
  · refine ⟨b, d, n, m, true, at_rounds (value_Find.mono _ _) hk e, fun _ => ?_⟩
    have h := find_ok hp hn
    unfold findOk at h
    rw [Length_eq (Nat.le_refl _) (VRk hp hn), ho] at h
    simp only [e] at h
    rw [hs] at h
    simp only [show ((0 : Int) == 41) = false from rfl, Bool.false_or] at h
    split at h
    · rename_i b2 d2 n2 m2 hl
      simp only [Bool.and_eq_true, beq_iff_eq] at h
      obtain ⟨⟨⟨rfl, rfl⟩, rfl⟩, rfl⟩ := h
      exact hl
    · cases h
end Go.Proofs.YtajbnfidcpfonaaDoor.Pure
