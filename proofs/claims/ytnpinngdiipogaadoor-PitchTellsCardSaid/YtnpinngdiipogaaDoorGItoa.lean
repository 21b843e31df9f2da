/- strconv.Itoa, in the print's form, for -1 to 9: the one of these that is below 0 goes the long way, over the library's table. -/
import Derived.Test.YtnpinngdiipogaaDoorGGlob
import Derived.Test.YtnpinngdiipogaaDoorGShelf
import Derived.RowKit
import Derived.Lib.AppendIntMem
namespace Go.Proofs.YtnpinngdiipogaaDoor.M
open Go.RowKit

def strconv_Itoa.f (a0 : Int) : Option ByteArray :=
  if a0 = -1 then some ⟨#[45, 49]⟩ else if 0 ≤ a0 ∧ a0 < 10 then some ⟨#[(48 + a0.toNat).toUInt8]⟩ else none
theorem digits_of : ∀ i : Fin 10, (Lib.decDigits i.val).toArray = #[(48 + i.val).toUInt8] := by decide +kernel
theorem itoa_neg : (Lib.itoa (-1)).toArray = #[45, 49] := by decide +kernel
theorem strconv_Itoa.calls (a0 : Int) (r : ByteArray) (w : World) (hG_ : GW w) (h : strconv_Itoa.f a0 = some r) :
    Calls Tryd.prog 35 #[.int .i64 a0] w fun e w' => e = .returned (.string r) ∧ Below w.heap.size w w' := by
  unfold strconv_Itoa.f at h
  split at h
  · rename_i hc
    subst hc
    obtain rfl := Option.some.inj h
    refine (Tryd.strconv_Itoa (-1) (by decide) (by decide) w hG_.2).mono ?_
    rintro e w' ⟨rfl, k, os, rfl⟩
    rw [itoa_neg]
    exact ⟨rfl, Lib.below_grow _ w (Nat.le_refl _) _ _⟩
  · split at h
    · rename_i hc
      obtain ⟨n, rfl⟩ := Int.eq_ofNat_of_zero_le hc.1
      obtain rfl := Option.some.inj h
      refine (Tryd.strconv_Itoa_small n (by omega) w).mono ?_
      rintro e w' ⟨rfl, rfl⟩
      have := digits_of ⟨n, by omega⟩
      simp only at this
      rw [this, Int.toNat_natCast]
      exact ⟨rfl, Below.refl _ _⟩
    · cases h
end Go.Proofs.YtnpinngdiipogaaDoor.M
