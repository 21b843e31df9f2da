/- How a ratio's text is told; the chapter's examples hold. -/
import Derived.Test.YtofolkbappinhaaDoorPureBase
import Derived.Test.YtofolkbappinhaaDoorM12
import Derived.Test.YtofolkbappinhaaDoorM11
set_option linter.unusedVariables false
set_option linter.unusedSimpArgs false
namespace Go.Proofs.YtofolkbappinhaaDoor.Pure
open Go.RowKit Go.Proofs.YtofolkbappinhaaDoor.M Go.Proofs.YtofolkbappinhaaDoorW.PrintWords Go.Proofs.YtofolkbappinhaaDoorW.PrintLast
set_option maxRecDepth 100000

theorem examples_ok : partitalaw01_examples.f 1000 = some true := at_rounds partitalaw01_examples.mono (show 100 ≤ 1000 by decide) (by decide +kernel)
theorem digits_len : ∀ u : Nat, 1 ≤ (Lib.decDigits u).length ∧ (Lib.decDigits u).length ≤ u + 1 := by
  intro u
  induction u using Nat.strongRecOn with
  | _ u ih =>
    unfold Lib.decDigits
    split
    · simp
    · have := ih (u / 10) (by omega)
      rw [List.length_append, List.length_singleton]
      omega
theorem itoa_len (n : Int) : 1 ≤ (Lib.itoa n).length ∧ (Lib.itoa n).length ≤ n.natAbs + 2 := by
  unfold Lib.itoa
  split
  · have := digits_len n.natAbs
    rw [List.length_cons]; omega
  · have := digits_len n.toNat
    omega
theorem bsize (l : List UInt8) : (⟨l.toArray⟩ : ByteArray).size = l.length := List.size_toArray
/-- a right ratio's text -/
def textS (p q : Int) : ByteArray := if q = 1 then ⟨(Lib.itoa p).toArray⟩ else ⟨(Lib.itoa p).toArray⟩ ++ ((⟨#[47]⟩ : ByteArray) ++ ⟨(Lib.itoa q).toArray⟩)
theorem itoa_eq {n : Int} (h : I64 n) : strconv_Itoa.f n = some ⟨(Lib.itoa n).toArray⟩ := by
  unfold strconv_Itoa.f
  rw [if_pos (show -9223372036854775808 ≤ n ∧ n ≤ 9223372036854775807 from h)]
theorem Text_eq {k : Nat} (hk : 150 ≤ k) {p q : Int} (hp : I64 p) (hq : I64 q) : ratio_Text.f k p q = some (if Rt p q then (textS p q, 0) else (⟨#[]⟩, 10)) := by
  unfold ratio_Text.f
  rw [right_eq (by omega) hp hq, Option.bind_some]
  by_cases h : Rt p q
  · rw [if_pos (by simpa using h), if_pos h, itoa_eq hp, itoa_eq hq, Option.bind_some]
    unfold textS
    by_cases h1 : q = 1
    · rw [if_pos h1, if_pos h1]
    · have l1 := itoa_len p
      have l2 := itoa_len q
      have h' := h
      obtain ⟨x1, x2, x3, _⟩ := h'
      have z0 : (⟨#[47]⟩ : ByteArray).size = 1 := rfl
      have z1 := bsize (Lib.itoa p)
      have z2 := bsize (Lib.itoa q)
      rw [if_neg h1, Option.bind_some, if_pos (by omega), if_pos (by rw [ByteArray.size_append]; omega), if_neg h1]
  · rw [if_neg (by simpa using h), if_neg h]
theorem textS_size {p q : Int} (h : Rt p q) : 1 ≤ (textS p q).size ∧ (textS p q).size ≤ 4000000000 := by
  have l1 := itoa_len p
  have l2 := itoa_len q
  obtain ⟨x1, x2, x3, _⟩ := h
  have z0 : (⟨#[47]⟩ : ByteArray).size = 1 := rfl
  have z1 := bsize (Lib.itoa p)
  have z2 := bsize (Lib.itoa q)
  unfold textS
  split
  · omega
  · rw [ByteArray.size_append, ByteArray.size_append]
    omega
theorem Rt_one {n : Int} (h : n.natAbs ≤ 1000000000) : Rt n 1 := ⟨by decide, h, by decide, Nat.gcd_one_right _⟩
end Go.Proofs.YtofolkbappinhaaDoor.Pure
