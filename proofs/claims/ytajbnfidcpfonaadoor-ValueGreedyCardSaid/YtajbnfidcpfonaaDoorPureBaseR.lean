/- Closed forms of the functions on ratios. -/
import Derived.Test.YtajbnfidcpfonaaDoorPureBase
import Derived.Test.YtajbnfidcpfonaaDoorM22x
import Derived.Test.YtajbnfidcpfonaaDoorM33
set_option linter.unusedVariables false
set_option linter.unusedSimpArgs false
namespace Go.Proofs.YtajbnfidcpfonaaDoor.Pure
open Go.RowKit Go.Proofs.YtajbnfidcpfonaaDoor.M Go.Proofs.YtajbnfidcpfonaaDoorW.PrintWords Go.Proofs.YtajbnfidcpfonaaDoorW.PrintLast Go.Proofs.YtajbnfidcpfonaaDoorW.PrintMore

def subS (a b c d : Int) : Int × Int × Int := if Rt a b ∧ Rt c d then ofS (a * d - c * b) (b * d) else (0, 0, 10)
theorem Sub_eq {k : Nat} (hk : 150 ≤ k) {a b c d : Int} (ha : I64 a) (hb : I64 b) (hc : I64 c) (hd : I64 d) : ratio_Sub.f k a b c d = some (subS a b c d) := by
  unfold ratio_Sub.f ratio_deed_do_Sub_1.f subS
  obtain ⟨k, rfl⟩ : ∃ m, k = m + 1 := ⟨k - 1, by omega⟩
  rw [right_eq (by omega) ha hb, right_eq (by omega) hc hd, Option.bind_some, Option.bind_some, ratio_deed_do_Sub_1.j0, ratio_deed_do_Sub_1.j0, ratio_Sub_1.f]
  by_cases h1 : Rt a b
  · by_cases h2 : Rt c d
    · rw [if_pos (by simpa using h1), decide_eq_true h2, if_neg (by decide), if_pos ⟨h1, h2⟩, Option.bind_some]
      obtain ⟨b1, b2, b3, b4, b5⟩ := bounds h1 h2
      rw [wr (x := a * d) (by omega) (by omega), wr (x := c * b) (by omega) (by omega), wr (x := a * d - c * b) (by omega) (by omega), wr (x := b * d) (by omega) (by omega)]
      dsimp only
      rw [Of_eq (by omega) ⟨by omega, by omega⟩ ⟨by omega, by omega⟩]
      rfl
    · rw [if_pos (by simpa using h1), decide_eq_false h2, if_pos (by decide), if_neg (fun h => h2 h.2)]
      rfl
  · rw [if_neg (by simpa using h1), if_pos rfl, if_neg (fun h => h1 h.1)]
    rfl
def mulS (a b c d : Int) : Int × Int × Int := if Rt a b ∧ Rt c d then ofS (a * c) (b * d) else (0, 0, 10)
theorem Mul_eq {k : Nat} (hk : 150 ≤ k) {a b c d : Int} (ha : I64 a) (hb : I64 b) (hc : I64 c) (hd : I64 d) : ratio_Mul.f k a b c d = some (mulS a b c d) := by
  unfold ratio_Mul.f ratio_deed_do_Mul_1.f mulS
  obtain ⟨k, rfl⟩ : ∃ m, k = m + 1 := ⟨k - 1, by omega⟩
  rw [right_eq (by omega) ha hb, right_eq (by omega) hc hd, Option.bind_some, Option.bind_some, ratio_deed_do_Mul_1.j0, ratio_deed_do_Mul_1.j0, ratio_Mul_1.f]
  by_cases h1 : Rt a b
  · by_cases h2 : Rt c d
    · rw [if_pos (by simpa using h1), decide_eq_true h2, if_neg (by decide), if_pos ⟨h1, h2⟩, Option.bind_some]
      obtain ⟨b1, b2, b3, b4, b5⟩ := bounds h1 h2
      rw [wr (x := a * c) (by omega) (by omega), wr (x := b * d) (by omega) (by omega)]
      dsimp only
      rw [Of_eq (by omega) ⟨by omega, by omega⟩ ⟨by omega, by omega⟩]
      rfl
    · rw [if_pos (by simpa using h1), decide_eq_false h2, if_pos (by decide), if_neg (fun h => h2 h.2)]
      rfl
  · rw [if_neg (by simpa using h1), if_pos rfl, if_neg (fun h => h1 h.1)]
    rfl

end Go.Proofs.YtajbnfidcpfonaaDoor.Pure
