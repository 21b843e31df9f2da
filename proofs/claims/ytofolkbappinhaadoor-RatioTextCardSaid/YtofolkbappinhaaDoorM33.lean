-- Written by wip/mprint.py, this session's own program, over the translation. Lean checks it.
import Derived.Test.YtofolkbappinhaaDoorM0
import Derived.Test.YtofolkbappinhaaDoorM1
import Derived.Test.YtofolkbappinhaaDoorM3
import Derived.Test.YtofolkbappinhaaDoorM11
import Derived.Test.YtofolkbappinhaaDoorM12
import Derived.Test.YtofolkbappinhaaDoorM25
import Derived.Test.YtofolkbappinhaaDoorGRead
namespace Go.Proofs.YtofolkbappinhaaDoor.M
open Go.RowKit Go.Proofs.YtofolkbappinhaaDoorW.PrintWords Go.Proofs.YtofolkbappinhaaDoorW.PrintLast Go.Proofs.YtofolkbappinhaaDoorW.PrintMore
attribute [local go_sem] max2_int min2_int max_two min_two max_three min_three max_four min_four   -- for this text's walks alone
set_option linter.unusedVariables false
set_option linter.unusedSimpArgs false

attribute [local go_sem high] eqA23
/-! ### partitalaw01_RatioText: function 9 -/
def partitalaw01_RatioText.j0 : Nat → Int → Bool → ByteArray → Int → ByteArray → Int → Int → Bool → Int → Int → Int → Int → Int → Int → Option (Bool)
  | 0, _, _, _, _, _, _, _, _, _, _, _, _, _, _ => none
  | k + 1, x2, x7, x13, x15, x16, x17, x21, x81, x591000, x591001, x601000, x601001, x614000, x614001 => if x81 = true then (some false) else (if x15 = 0 then (if x17 = 0 then (if x16.toList = x13.toList then ((ratio_Right.f k x601000 x601001).bind fun t614 => (if t614 = true then (if x7 = true then (if x21 = 12 then (some true) else (if x2 ≥ 48 then (if x2 ≤ 57 then (some (!(x614000 == x591000) || (!(x614001 == x591001)))) else (some false)) else (some false))) else (some false)) else (some false))) else (some false)) else (some false)) else (if x15 = 12 then (if (!(x601000 == 0) || (!(x601001 == 0))) = true then (some false) else (if x7 = true then (if x21 = 12 then (some true) else (if x2 ≥ 48 then (if x2 ≤ 57 then (some (!(x614000 == x591000) || (!(x614001 == x591001)))) else (some false)) else (some false))) else (some false))) else (some false)))
def partitalaw01_RatioText.f (k : Nat) (a0_0 : Int) (a0_1 : Int) (a1 : ByteArray) (a2 : Int) : Option (Bool) := (partitalaw01_examples.f k).bind fun t587 => (if t587 = true then ((partitalaw01_Ratio.f k a0_0 a0_1).bind fun bt588 => ((ratio_Text.f k bt588.1 bt588.2).bind fun bt591 => ((ratio_Read.f k bt591.1).bind fun bt593 => (if 0 ≤ (mn (a1.size : Int) 30) then (if (mn (a1.size : Int) 30) ≤ (a1.size : Int) then ((ratio_Read.f k (a1.extract 0 ((mn (a1.size : Int) 30) : Int).toNat)).bind fun bt597 => ((ratio_Text.f k bt597.1 bt597.2.1).bind fun bt601 => (if 1 + bt591.1.size ≤ 9223372036854775807 then ((ratio_Read.f k ((⟨#[48]⟩ : ByteArray) ++ bt591.1)).bind fun bt603 => ((some (([a2] : List Int) : List Int)).bind fun y607 => (if bt591.1.size + (strOfNums y607).size ≤ 9223372036854775807 then ((ratio_Read.f k (bt591.1 ++ (strOfNums y607))).bind fun bt610 => (if bt591.2 = 0 then (if bt593.2.2 = 0 then (if (!(bt588.1 == bt593.1) || (!(bt588.2 == bt593.2.1))) = true then (partitalaw01_RatioText.j0 k a2 t587 (a1.extract 0 ((mn (a1.size : Int) 30) : Int).toNat) bt597.2.2 bt601.1 bt601.2 bt610.2.2 true bt588.1 bt588.2 bt597.1 bt597.2.1 bt610.1 bt610.2.1) else (partitalaw01_RatioText.j0 k a2 t587 (a1.extract 0 ((mn (a1.size : Int) 30) : Int).toNat) bt597.2.2 bt601.1 bt601.2 bt610.2.2 (bt603.2.2 != 12) bt588.1 bt588.2 bt597.1 bt597.2.1 bt610.1 bt610.2.1)) else (partitalaw01_RatioText.j0 k a2 t587 (a1.extract 0 ((mn (a1.size : Int) 30) : Int).toNat) bt597.2.2 bt601.1 bt601.2 bt610.2.2 true bt588.1 bt588.2 bt597.1 bt597.2.1 bt610.1 bt610.2.1)) else (partitalaw01_RatioText.j0 k a2 t587 (a1.extract 0 ((mn (a1.size : Int) 30) : Int).toNat) bt597.2.2 bt601.1 bt601.2 bt610.2.2 true bt588.1 bt588.2 bt597.1 bt597.2.1 bt610.1 bt610.2.1))) else (none)))) else (none)))) else (none)) else (none))))) else (some false))
theorem partitalaw01_RatioText.mono_l : ∀ k, (∀ y0 y1 y2 y3 y4 y5 y6 y7 y8 y9 y10 y11 y12 y13, LeO (partitalaw01_RatioText.j0 k y0 y1 y2 y3 y4 y5 y6 y7 y8 y9 y10 y11 y12 y13) (partitalaw01_RatioText.j0 (k + 1) y0 y1 y2 y3 y4 y5 y6 y7 y8 y9 y10 y11 y12 y13))
  | 0 => fun _ _ _ _ _ _ _ _ _ _ _ _ _ _ r h => by simp [partitalaw01_RatioText.j0] at h
  | k + 1 => by
    have ih0 := partitalaw01_RatioText.mono_l k
    · intro y0 y1 y2 y3 y4 y5 y6 y7 y8 y9 y10 y11 y12 y13
      unfold partitalaw01_RatioText.j0
      repeat' first
      | (with_reducible exact ih0 _ _ _ _ _ _ _ _ _ _ _ _ _ _)
      | (with_reducible exact partitalaw01_Ratio.mono _ _ _)
      | (with_reducible exact partitalaw01_examples.mono _)
      | (with_reducible exact ratio_Read.mono _ _)
      | (with_reducible exact ratio_Right.mono _ _ _)
      | (with_reducible exact ratio_Text.mono _ _ _)
      | (with_reducible exact LeO.refl _)
      | (with_reducible exact LeO.none _)
      | (with_reducible refine LeO.ite ?_ ?_)
      | (with_reducible refine LeO.bind ?_ (fun _ => ?_))
      | exact ih0 _ _ _ _ _ _ _ _ _ _ _ _ _ _
      | exact partitalaw01_Ratio.mono _ _ _
      | exact partitalaw01_examples.mono _
      | exact ratio_Read.mono _ _
      | exact ratio_Right.mono _ _ _
      | exact ratio_Text.mono _ _ _
      | exact LeO.none _
      | refine LeO.ite ?_ ?_
      | refine LeO.bind ?_ (fun _ => ?_)
theorem partitalaw01_RatioText.mono : ∀ a0 a1 a2 a3 k, LeO (partitalaw01_RatioText.f k a0 a1 a2 a3) (partitalaw01_RatioText.f (k + 1) a0 a1 a2 a3) := by
  intro a0 a1 a2 a3 k
  have ih0 := partitalaw01_RatioText.mono_l k
  unfold partitalaw01_RatioText.f
  repeat' first
      | (with_reducible exact ih0 _ _ _ _ _ _ _ _ _ _ _ _ _ _)
      | (with_reducible exact partitalaw01_Ratio.mono _ _ _)
      | (with_reducible exact partitalaw01_examples.mono _)
      | (with_reducible exact ratio_Read.mono _ _)
      | (with_reducible exact ratio_Right.mono _ _ _)
      | (with_reducible exact ratio_Text.mono _ _ _)
      | (with_reducible exact LeO.refl _)
      | (with_reducible exact LeO.none _)
      | (with_reducible refine LeO.ite ?_ ?_)
      | (with_reducible refine LeO.bind ?_ (fun _ => ?_))
      | exact ih0 _ _ _ _ _ _ _ _ _ _ _ _ _ _
      | exact partitalaw01_Ratio.mono _ _ _
      | exact partitalaw01_examples.mono _
      | exact ratio_Read.mono _ _
      | exact ratio_Right.mono _ _ _
      | exact ratio_Text.mono _ _ _
      | exact LeO.none _
      | refine LeO.ite ?_ ?_
      | refine LeO.bind ?_ (fun _ => ?_)
set_option maxHeartbeats 8000000 in
set_option maxRecDepth 100000 in
theorem partitalaw01_RatioText.calls (k : Nat) (a0_0 : Int) (a0_1 : Int) (a1 : ByteArray) (a2 : Int) (r : Bool) (w : World) (hr_ : r = true) (hG_ : GW w) (h : partitalaw01_RatioText.f k a0_0 a0_1 a1 a2 = some r) :
    Calls Tryd.prog 9 #[.agg #[.int .i64 a0_0, .int .i64 a0_1], .string a1, .int .u8 a2] w fun e w' => e = .returned (.bool r) ∧ Below w.heap.size w w' := by
  have hu23 := Tryd.underlying23
  have HB := Aside0.mk (Below.refl w.heap.size w)
  have HR_ := Aside0.mk hr_
  clear hr_
  have HG_ := Aside0.mk hG_
  clear hG_
  have H : ((partitalaw01_examples.f k).bind fun t587 => (if t587 = true then ((partitalaw01_Ratio.f k a0_0 a0_1).bind fun bt588 => ((ratio_Text.f k bt588.1 bt588.2).bind fun bt591 => ((ratio_Read.f k bt591.1).bind fun bt593 => (if 0 ≤ (mn (a1.size : Int) 30) then (if (mn (a1.size : Int) 30) ≤ (a1.size : Int) then ((ratio_Read.f k (a1.extract 0 ((mn (a1.size : Int) 30) : Int).toNat)).bind fun bt597 => ((ratio_Text.f k bt597.1 bt597.2.1).bind fun bt601 => (if 1 + bt591.1.size ≤ 9223372036854775807 then ((ratio_Read.f k ((⟨#[48]⟩ : ByteArray) ++ bt591.1)).bind fun bt603 => ((some (([a2] : List Int) : List Int)).bind fun y607 => (if bt591.1.size + (strOfNums y607).size ≤ 9223372036854775807 then ((ratio_Read.f k (bt591.1 ++ (strOfNums y607))).bind fun bt610 => (if bt591.2 = 0 then (if bt593.2.2 = 0 then (if (!(bt588.1 == bt593.1) || (!(bt588.2 == bt593.2.1))) = true then (partitalaw01_RatioText.j0 k a2 t587 (a1.extract 0 ((mn (a1.size : Int) 30) : Int).toNat) bt597.2.2 bt601.1 bt601.2 bt610.2.2 true bt588.1 bt588.2 bt597.1 bt597.2.1 bt610.1 bt610.2.1) else (partitalaw01_RatioText.j0 k a2 t587 (a1.extract 0 ((mn (a1.size : Int) 30) : Int).toNat) bt597.2.2 bt601.1 bt601.2 bt610.2.2 (bt603.2.2 != 12) bt588.1 bt588.2 bt597.1 bt597.2.1 bt610.1 bt610.2.1)) else (partitalaw01_RatioText.j0 k a2 t587 (a1.extract 0 ((mn (a1.size : Int) 30) : Int).toNat) bt597.2.2 bt601.1 bt601.2 bt610.2.2 true bt588.1 bt588.2 bt597.1 bt597.2.1 bt610.1 bt610.2.1)) else (partitalaw01_RatioText.j0 k a2 t587 (a1.extract 0 ((mn (a1.size : Int) 30) : Int).toNat) bt597.2.2 bt601.1 bt601.2 bt610.2.2 true bt588.1 bt588.2 bt597.1 bt597.2.1 bt610.1 bt610.2.1))) else (none)))) else (none)))) else (none)) else (none))))) else (some false))) = some r := h
  clear h
  replace H := Option.bind_eq_some_iff.mp H
  obtain ⟨t587, A40, H⟩ := H
  replace H : (if t587 = true then ((partitalaw01_Ratio.f k a0_0 a0_1).bind fun bt588 => ((ratio_Text.f k bt588.1 bt588.2).bind fun bt591 => ((ratio_Read.f k bt591.1).bind fun bt593 => (if 0 ≤ (mn (a1.size : Int) 30) then (if (mn (a1.size : Int) 30) ≤ (a1.size : Int) then ((ratio_Read.f k (a1.extract 0 ((mn (a1.size : Int) 30) : Int).toNat)).bind fun bt597 => ((ratio_Text.f k bt597.1 bt597.2.1).bind fun bt601 => (if 1 + bt591.1.size ≤ 9223372036854775807 then ((ratio_Read.f k ((⟨#[48]⟩ : ByteArray) ++ bt591.1)).bind fun bt603 => ((some (([a2] : List Int) : List Int)).bind fun y607 => (if bt591.1.size + (strOfNums y607).size ≤ 9223372036854775807 then ((ratio_Read.f k (bt591.1 ++ (strOfNums y607))).bind fun bt610 => (if bt591.2 = 0 then (if bt593.2.2 = 0 then (if (!(bt588.1 == bt593.1) || (!(bt588.2 == bt593.2.1))) = true then (partitalaw01_RatioText.j0 k a2 t587 (a1.extract 0 ((mn (a1.size : Int) 30) : Int).toNat) bt597.2.2 bt601.1 bt601.2 bt610.2.2 true bt588.1 bt588.2 bt597.1 bt597.2.1 bt610.1 bt610.2.1) else (partitalaw01_RatioText.j0 k a2 t587 (a1.extract 0 ((mn (a1.size : Int) 30) : Int).toNat) bt597.2.2 bt601.1 bt601.2 bt610.2.2 (bt603.2.2 != 12) bt588.1 bt588.2 bt597.1 bt597.2.1 bt610.1 bt610.2.1)) else (partitalaw01_RatioText.j0 k a2 t587 (a1.extract 0 ((mn (a1.size : Int) 30) : Int).toNat) bt597.2.2 bt601.1 bt601.2 bt610.2.2 true bt588.1 bt588.2 bt597.1 bt597.2.1 bt610.1 bt610.2.1)) else (partitalaw01_RatioText.j0 k a2 t587 (a1.extract 0 ((mn (a1.size : Int) 30) : Int).toNat) bt597.2.2 bt601.1 bt601.2 bt610.2.2 true bt588.1 bt588.2 bt597.1 bt597.2.1 bt610.1 bt610.2.1))) else (none)))) else (none)))) else (none)) else (none))))) else (some false)) = some r := H
  have A4 := Aside0.mk A40
  clear A40
  by_cases c5 : t587 = true
  · subst c5
    have H1 : ((partitalaw01_Ratio.f k a0_0 a0_1).bind fun bt588 => ((ratio_Text.f k bt588.1 bt588.2).bind fun bt591 => ((ratio_Read.f k bt591.1).bind fun bt593 => (if 0 ≤ (mn (a1.size : Int) 30) then (if (mn (a1.size : Int) 30) ≤ (a1.size : Int) then ((ratio_Read.f k (a1.extract 0 ((mn (a1.size : Int) 30) : Int).toNat)).bind fun bt597 => ((ratio_Text.f k bt597.1 bt597.2.1).bind fun bt601 => (if 1 + bt591.1.size ≤ 9223372036854775807 then ((ratio_Read.f k ((⟨#[48]⟩ : ByteArray) ++ bt591.1)).bind fun bt603 => ((some (([a2] : List Int) : List Int)).bind fun y607 => (if bt591.1.size + (strOfNums y607).size ≤ 9223372036854775807 then ((ratio_Read.f k (bt591.1 ++ (strOfNums y607))).bind fun bt610 => (if bt591.2 = 0 then (if bt593.2.2 = 0 then (if (!(bt588.1 == bt593.1) || (!(bt588.2 == bt593.2.1))) = true then (partitalaw01_RatioText.j0 k a2 true (a1.extract 0 ((mn (a1.size : Int) 30) : Int).toNat) bt597.2.2 bt601.1 bt601.2 bt610.2.2 true bt588.1 bt588.2 bt597.1 bt597.2.1 bt610.1 bt610.2.1) else (partitalaw01_RatioText.j0 k a2 true (a1.extract 0 ((mn (a1.size : Int) 30) : Int).toNat) bt597.2.2 bt601.1 bt601.2 bt610.2.2 (bt603.2.2 != 12) bt588.1 bt588.2 bt597.1 bt597.2.1 bt610.1 bt610.2.1)) else (partitalaw01_RatioText.j0 k a2 true (a1.extract 0 ((mn (a1.size : Int) 30) : Int).toNat) bt597.2.2 bt601.1 bt601.2 bt610.2.2 true bt588.1 bt588.2 bt597.1 bt597.2.1 bt610.1 bt610.2.1)) else (partitalaw01_RatioText.j0 k a2 true (a1.extract 0 ((mn (a1.size : Int) 30) : Int).toNat) bt597.2.2 bt601.1 bt601.2 bt610.2.2 true bt588.1 bt588.2 bt597.1 bt597.2.1 bt610.1 bt610.2.1))) else (none)))) else (none)))) else (none)) else (none))))) = some r := by rw [if_pos rfl] at H; exact H
    clear H
    have H := H1
    clear H1
    replace H := Option.bind_eq_some_iff.mp H
    obtain ⟨⟨t588, t589⟩, A60, H⟩ := H
    replace H : ((ratio_Text.f k t588 t589).bind fun bt591 => ((ratio_Read.f k bt591.1).bind fun bt593 => (if 0 ≤ (mn (a1.size : Int) 30) then (if (mn (a1.size : Int) 30) ≤ (a1.size : Int) then ((ratio_Read.f k (a1.extract 0 ((mn (a1.size : Int) 30) : Int).toNat)).bind fun bt597 => ((ratio_Text.f k bt597.1 bt597.2.1).bind fun bt601 => (if 1 + bt591.1.size ≤ 9223372036854775807 then ((ratio_Read.f k ((⟨#[48]⟩ : ByteArray) ++ bt591.1)).bind fun bt603 => ((some (([a2] : List Int) : List Int)).bind fun y607 => (if bt591.1.size + (strOfNums y607).size ≤ 9223372036854775807 then ((ratio_Read.f k (bt591.1 ++ (strOfNums y607))).bind fun bt610 => (if bt591.2 = 0 then (if bt593.2.2 = 0 then (if (!(t588 == bt593.1) || (!(t589 == bt593.2.1))) = true then (partitalaw01_RatioText.j0 k a2 true (a1.extract 0 ((mn (a1.size : Int) 30) : Int).toNat) bt597.2.2 bt601.1 bt601.2 bt610.2.2 true t588 t589 bt597.1 bt597.2.1 bt610.1 bt610.2.1) else (partitalaw01_RatioText.j0 k a2 true (a1.extract 0 ((mn (a1.size : Int) 30) : Int).toNat) bt597.2.2 bt601.1 bt601.2 bt610.2.2 (bt603.2.2 != 12) t588 t589 bt597.1 bt597.2.1 bt610.1 bt610.2.1)) else (partitalaw01_RatioText.j0 k a2 true (a1.extract 0 ((mn (a1.size : Int) 30) : Int).toNat) bt597.2.2 bt601.1 bt601.2 bt610.2.2 true t588 t589 bt597.1 bt597.2.1 bt610.1 bt610.2.1)) else (partitalaw01_RatioText.j0 k a2 true (a1.extract 0 ((mn (a1.size : Int) 30) : Int).toNat) bt597.2.2 bt601.1 bt601.2 bt610.2.2 true t588 t589 bt597.1 bt597.2.1 bt610.1 bt610.2.1))) else (none)))) else (none)))) else (none)) else (none)))) = some r := H
    have A6 := Aside0.mk A60
    clear A60
    replace H := Option.bind_eq_some_iff.mp H
    obtain ⟨⟨t591, t592⟩, A70, H⟩ := H
    replace H : ((ratio_Read.f k t591).bind fun bt593 => (if 0 ≤ (mn (a1.size : Int) 30) then (if (mn (a1.size : Int) 30) ≤ (a1.size : Int) then ((ratio_Read.f k (a1.extract 0 ((mn (a1.size : Int) 30) : Int).toNat)).bind fun bt597 => ((ratio_Text.f k bt597.1 bt597.2.1).bind fun bt601 => (if 1 + t591.size ≤ 9223372036854775807 then ((ratio_Read.f k ((⟨#[48]⟩ : ByteArray) ++ t591)).bind fun bt603 => ((some (([a2] : List Int) : List Int)).bind fun y607 => (if t591.size + (strOfNums y607).size ≤ 9223372036854775807 then ((ratio_Read.f k (t591 ++ (strOfNums y607))).bind fun bt610 => (if t592 = 0 then (if bt593.2.2 = 0 then (if (!(t588 == bt593.1) || (!(t589 == bt593.2.1))) = true then (partitalaw01_RatioText.j0 k a2 true (a1.extract 0 ((mn (a1.size : Int) 30) : Int).toNat) bt597.2.2 bt601.1 bt601.2 bt610.2.2 true t588 t589 bt597.1 bt597.2.1 bt610.1 bt610.2.1) else (partitalaw01_RatioText.j0 k a2 true (a1.extract 0 ((mn (a1.size : Int) 30) : Int).toNat) bt597.2.2 bt601.1 bt601.2 bt610.2.2 (bt603.2.2 != 12) t588 t589 bt597.1 bt597.2.1 bt610.1 bt610.2.1)) else (partitalaw01_RatioText.j0 k a2 true (a1.extract 0 ((mn (a1.size : Int) 30) : Int).toNat) bt597.2.2 bt601.1 bt601.2 bt610.2.2 true t588 t589 bt597.1 bt597.2.1 bt610.1 bt610.2.1)) else (partitalaw01_RatioText.j0 k a2 true (a1.extract 0 ((mn (a1.size : Int) 30) : Int).toNat) bt597.2.2 bt601.1 bt601.2 bt610.2.2 true t588 t589 bt597.1 bt597.2.1 bt610.1 bt610.2.1))) else (none)))) else (none)))) else (none)) else (none))) = some r := H
    have A7 := Aside0.mk A70
    clear A70
    replace H := Option.bind_eq_some_iff.mp H
    obtain ⟨⟨t593, t594, t595⟩, A80, H⟩ := H
    replace H : (if 0 ≤ (mn (a1.size : Int) 30) then (if (mn (a1.size : Int) 30) ≤ (a1.size : Int) then ((ratio_Read.f k (a1.extract 0 ((mn (a1.size : Int) 30) : Int).toNat)).bind fun bt597 => ((ratio_Text.f k bt597.1 bt597.2.1).bind fun bt601 => (if 1 + t591.size ≤ 9223372036854775807 then ((ratio_Read.f k ((⟨#[48]⟩ : ByteArray) ++ t591)).bind fun bt603 => ((some (([a2] : List Int) : List Int)).bind fun y607 => (if t591.size + (strOfNums y607).size ≤ 9223372036854775807 then ((ratio_Read.f k (t591 ++ (strOfNums y607))).bind fun bt610 => (if t592 = 0 then (if t595 = 0 then (if (!(t588 == t593) || (!(t589 == t594))) = true then (partitalaw01_RatioText.j0 k a2 true (a1.extract 0 ((mn (a1.size : Int) 30) : Int).toNat) bt597.2.2 bt601.1 bt601.2 bt610.2.2 true t588 t589 bt597.1 bt597.2.1 bt610.1 bt610.2.1) else (partitalaw01_RatioText.j0 k a2 true (a1.extract 0 ((mn (a1.size : Int) 30) : Int).toNat) bt597.2.2 bt601.1 bt601.2 bt610.2.2 (bt603.2.2 != 12) t588 t589 bt597.1 bt597.2.1 bt610.1 bt610.2.1)) else (partitalaw01_RatioText.j0 k a2 true (a1.extract 0 ((mn (a1.size : Int) 30) : Int).toNat) bt597.2.2 bt601.1 bt601.2 bt610.2.2 true t588 t589 bt597.1 bt597.2.1 bt610.1 bt610.2.1)) else (partitalaw01_RatioText.j0 k a2 true (a1.extract 0 ((mn (a1.size : Int) 30) : Int).toNat) bt597.2.2 bt601.1 bt601.2 bt610.2.2 true t588 t589 bt597.1 bt597.2.1 bt610.1 bt610.2.1))) else (none)))) else (none)))) else (none)) else (none)) = some r := H
    have A8 := Aside0.mk A80
    clear A80
    obtain ⟨ji9, hji9⟩ : ∃ j_ : Int, (mn (a1.size : Int) 30) = j_ := ⟨_, rfl⟩
    replace H : (if 0 ≤ (ji9) then (if (ji9) ≤ (a1.size : Int) then ((ratio_Read.f k (a1.extract 0 ((ji9) : Int).toNat)).bind fun bt597 => ((ratio_Text.f k bt597.1 bt597.2.1).bind fun bt601 => (if 1 + t591.size ≤ 9223372036854775807 then ((ratio_Read.f k ((⟨#[48]⟩ : ByteArray) ++ t591)).bind fun bt603 => ((some (([a2] : List Int) : List Int)).bind fun y607 => (if t591.size + (strOfNums y607).size ≤ 9223372036854775807 then ((ratio_Read.f k (t591 ++ (strOfNums y607))).bind fun bt610 => (if t592 = 0 then (if t595 = 0 then (if (!(t588 == t593) || (!(t589 == t594))) = true then (partitalaw01_RatioText.j0 k a2 true (a1.extract 0 ((ji9) : Int).toNat) bt597.2.2 bt601.1 bt601.2 bt610.2.2 true t588 t589 bt597.1 bt597.2.1 bt610.1 bt610.2.1) else (partitalaw01_RatioText.j0 k a2 true (a1.extract 0 ((ji9) : Int).toNat) bt597.2.2 bt601.1 bt601.2 bt610.2.2 (bt603.2.2 != 12) t588 t589 bt597.1 bt597.2.1 bt610.1 bt610.2.1)) else (partitalaw01_RatioText.j0 k a2 true (a1.extract 0 ((ji9) : Int).toNat) bt597.2.2 bt601.1 bt601.2 bt610.2.2 true t588 t589 bt597.1 bt597.2.1 bt610.1 bt610.2.1)) else (partitalaw01_RatioText.j0 k a2 true (a1.extract 0 ((ji9) : Int).toNat) bt597.2.2 bt601.1 bt601.2 bt610.2.2 true t588 t589 bt597.1 bt597.2.1 bt610.1 bt610.2.1))) else (none)))) else (none)))) else (none)) else (none)) = some r := by first | (rw [hji9] at H; exact H) | (simp only [hji9] at H ⊢; exact H)
    (try rw [hji9] at A4)
    (try rw [hji9] at A6)
    (try rw [hji9] at A7)
    (try rw [hji9] at A8)
    (try (have hji9h : ji9 ≤ 30 := by (rw [← hji9]; unfold mn; (repeat' split) <;> omega)))
    (try (have hji9g : ji9 ≤ 64 := by omega))
    (try (have hji9l : 0 ≤ ji9 := by (rw [← hji9]; unfold mn; (repeat' split) <;> omega)))
    (try (have hji9m : 0 ≤ ji9 := by omega))
    have hji9_ : (if 30 < (a1.size : Int) then 30 else (a1.size : Int)) = ji9 := hji9
    by_cases c10 : 0 ≤ (ji9)
    · rw [if_pos c10] at H
      have c10b0 := eq_true c10
      have c10b1 : decide (0 ≤ (ji9)) = true := decide_eq_true c10
      clear c10
      by_cases c11 : (ji9) ≤ (a1.size : Int)
      · rw [if_pos c11] at H
        have c11b0 := eq_true c11
        have c11b1 : decide ((ji9) ≤ (a1.size : Int)) = true := decide_eq_true c11
        clear c11
        replace H := Option.bind_eq_some_iff.mp H
        obtain ⟨⟨t597, t598, t599⟩, A120, H⟩ := H
        replace H : ((ratio_Text.f k t597 t598).bind fun bt601 => (if 1 + t591.size ≤ 9223372036854775807 then ((ratio_Read.f k ((⟨#[48]⟩ : ByteArray) ++ t591)).bind fun bt603 => ((some (([a2] : List Int) : List Int)).bind fun y607 => (if t591.size + (strOfNums y607).size ≤ 9223372036854775807 then ((ratio_Read.f k (t591 ++ (strOfNums y607))).bind fun bt610 => (if t592 = 0 then (if t595 = 0 then (if (!(t588 == t593) || (!(t589 == t594))) = true then (partitalaw01_RatioText.j0 k a2 true (a1.extract 0 ((ji9) : Int).toNat) t599 bt601.1 bt601.2 bt610.2.2 true t588 t589 t597 t598 bt610.1 bt610.2.1) else (partitalaw01_RatioText.j0 k a2 true (a1.extract 0 ((ji9) : Int).toNat) t599 bt601.1 bt601.2 bt610.2.2 (bt603.2.2 != 12) t588 t589 t597 t598 bt610.1 bt610.2.1)) else (partitalaw01_RatioText.j0 k a2 true (a1.extract 0 ((ji9) : Int).toNat) t599 bt601.1 bt601.2 bt610.2.2 true t588 t589 t597 t598 bt610.1 bt610.2.1)) else (partitalaw01_RatioText.j0 k a2 true (a1.extract 0 ((ji9) : Int).toNat) t599 bt601.1 bt601.2 bt610.2.2 true t588 t589 t597 t598 bt610.1 bt610.2.1))) else (none)))) else (none))) = some r := H
        have A12 := Aside0.mk A120
        clear A120
        replace H := Option.bind_eq_some_iff.mp H
        obtain ⟨⟨t601, t602⟩, A130, H⟩ := H
        replace H : (if 1 + t591.size ≤ 9223372036854775807 then ((ratio_Read.f k ((⟨#[48]⟩ : ByteArray) ++ t591)).bind fun bt603 => ((some (([a2] : List Int) : List Int)).bind fun y607 => (if t591.size + (strOfNums y607).size ≤ 9223372036854775807 then ((ratio_Read.f k (t591 ++ (strOfNums y607))).bind fun bt610 => (if t592 = 0 then (if t595 = 0 then (if (!(t588 == t593) || (!(t589 == t594))) = true then (partitalaw01_RatioText.j0 k a2 true (a1.extract 0 ((ji9) : Int).toNat) t599 t601 t602 bt610.2.2 true t588 t589 t597 t598 bt610.1 bt610.2.1) else (partitalaw01_RatioText.j0 k a2 true (a1.extract 0 ((ji9) : Int).toNat) t599 t601 t602 bt610.2.2 (bt603.2.2 != 12) t588 t589 t597 t598 bt610.1 bt610.2.1)) else (partitalaw01_RatioText.j0 k a2 true (a1.extract 0 ((ji9) : Int).toNat) t599 t601 t602 bt610.2.2 true t588 t589 t597 t598 bt610.1 bt610.2.1)) else (partitalaw01_RatioText.j0 k a2 true (a1.extract 0 ((ji9) : Int).toNat) t599 t601 t602 bt610.2.2 true t588 t589 t597 t598 bt610.1 bt610.2.1))) else (none)))) else (none)) = some r := H
        have A13 := Aside0.mk A130
        clear A130
        by_cases c14 : 1 + t591.size ≤ 9223372036854775807
        · rw [if_pos c14] at H
          have c14b0 := eq_true c14
          have c14b1 : decide (1 + t591.size ≤ 9223372036854775807) = true := decide_eq_true c14
          try have c14b2 : (9223372036854775807 < 1 + t591.size) = False := eq_false (Nat.not_lt.2 c14)
          replace H := Option.bind_eq_some_iff.mp H
          obtain ⟨⟨t603, t604, t605⟩, A150, H⟩ := H
          replace H : ((some (([a2] : List Int) : List Int)).bind fun y607 => (if t591.size + (strOfNums y607).size ≤ 9223372036854775807 then ((ratio_Read.f k (t591 ++ (strOfNums y607))).bind fun bt610 => (if t592 = 0 then (if t595 = 0 then (if (!(t588 == t593) || (!(t589 == t594))) = true then (partitalaw01_RatioText.j0 k a2 true (a1.extract 0 ((ji9) : Int).toNat) t599 t601 t602 bt610.2.2 true t588 t589 t597 t598 bt610.1 bt610.2.1) else (partitalaw01_RatioText.j0 k a2 true (a1.extract 0 ((ji9) : Int).toNat) t599 t601 t602 bt610.2.2 (t605 != 12) t588 t589 t597 t598 bt610.1 bt610.2.1)) else (partitalaw01_RatioText.j0 k a2 true (a1.extract 0 ((ji9) : Int).toNat) t599 t601 t602 bt610.2.2 true t588 t589 t597 t598 bt610.1 bt610.2.1)) else (partitalaw01_RatioText.j0 k a2 true (a1.extract 0 ((ji9) : Int).toNat) t599 t601 t602 bt610.2.2 true t588 t589 t597 t598 bt610.1 bt610.2.1))) else (none))) = some r := H
          have A15 := Aside0.mk A150
          clear A150
          obtain ⟨y607, hy607⟩ : ∃ y_ : List Int, y_ = (([a2] : List Int)) := ⟨_, rfl⟩
          replace H : (if t591.size + (strOfNums y607).size ≤ 9223372036854775807 then ((ratio_Read.f k (t591 ++ (strOfNums y607))).bind fun bt610 => (if t592 = 0 then (if t595 = 0 then (if (!(t588 == t593) || (!(t589 == t594))) = true then (partitalaw01_RatioText.j0 k a2 true (a1.extract 0 ((ji9) : Int).toNat) t599 t601 t602 bt610.2.2 true t588 t589 t597 t598 bt610.1 bt610.2.1) else (partitalaw01_RatioText.j0 k a2 true (a1.extract 0 ((ji9) : Int).toNat) t599 t601 t602 bt610.2.2 (t605 != 12) t588 t589 t597 t598 bt610.1 bt610.2.1)) else (partitalaw01_RatioText.j0 k a2 true (a1.extract 0 ((ji9) : Int).toNat) t599 t601 t602 bt610.2.2 true t588 t589 t597 t598 bt610.1 bt610.2.1)) else (partitalaw01_RatioText.j0 k a2 true (a1.extract 0 ((ji9) : Int).toNat) t599 t601 t602 bt610.2.2 true t588 t589 t597 t598 bt610.1 bt610.2.1))) else (none)) = some r := by first | (rw [hy607]; with_reducible exact H) | (have H2_ := (Option.bind_some _ _).symm.trans H; rw [hy607]; with_reducible exact H2_) | (have H2_ := (Option.bind_some _ _).symm.trans H; with_reducible exact H2_) | with_reducible exact H | (rw [hy607]; exact H) | exact H
          have Ny607 := Aside0.mk hy607
          clear hy607
          by_cases c16 : t591.size + (strOfNums y607).size ≤ 9223372036854775807
          · rw [if_pos c16] at H
            have c16b0 := eq_true c16
            have c16b1 : decide (t591.size + (strOfNums y607).size ≤ 9223372036854775807) = true := decide_eq_true c16
            try have c16b2 : (9223372036854775807 < t591.size + (strOfNums y607).size) = False := eq_false (Nat.not_lt.2 c16)
            replace H := Option.bind_eq_some_iff.mp H
            obtain ⟨⟨t610, t611, t612⟩, A170, H⟩ := H
            replace H : (if t592 = 0 then (if t595 = 0 then (if (!(t588 == t593) || (!(t589 == t594))) = true then (partitalaw01_RatioText.j0 k a2 true (a1.extract 0 ((ji9) : Int).toNat) t599 t601 t602 t612 true t588 t589 t597 t598 t610 t611) else (partitalaw01_RatioText.j0 k a2 true (a1.extract 0 ((ji9) : Int).toNat) t599 t601 t602 t612 (t605 != 12) t588 t589 t597 t598 t610 t611)) else (partitalaw01_RatioText.j0 k a2 true (a1.extract 0 ((ji9) : Int).toNat) t599 t601 t602 t612 true t588 t589 t597 t598 t610 t611)) else (partitalaw01_RatioText.j0 k a2 true (a1.extract 0 ((ji9) : Int).toNat) t599 t601 t602 t612 true t588 t589 t597 t598 t610 t611)) = some r := H
            have A17 := Aside0.mk A170
            clear A170
            have HC18 := Aside0.mk H
            clear H
            go_enter Tryd.func9, Tryd.ntmps9
            go_upto_region 12 with (first | ((with_reducible refine gate_dst (N := 3) rfl ?_); refine box_event ?hg (N := 3) ?hd (cs := #[.int .i64 a0_0, .int .i64 a0_1]) (t := 23) ?hr ?_; (case hd => rfl); (case hg => rfl); (case hr => first | (go_simp; done) | (go_simp; rfl)); intro gb586 hg w19 hbox hb; have n0_ := Aside0.mk (below_step (by repeat (first | (with_reducible first | exact HB.out | apply below_alloc | apply pw_below_drewN | apply below_drew1) | exact HB.out)) hb); have n1_ := Aside0.mk (hbox); have n2_ := Aside0.mk ((by rw [hg]; exact (below_size (by repeat (first | (with_reducible first | exact HB.out | apply below_alloc | apply pw_below_drewN | apply below_drew1) | exact HB.out))) : w.heap.size ≤ gb586)); have n3_ := n2_; clear HB; have HB := n0_; have BK586 := n1_; have GW586 := n2_; have GE586 := n3_; clear n0_ n1_ n2_ n3_; clear hb hbox hg) | ((with_reducible refine gate_callee (f := 11) rfl ?_); refine goesL_ (some 22) rfl rfl Tryd.func11 (by kernel_rfl) rfl #[] rfl (by (try simp only [List.map_toArray, List.map_cons, List.map_nil]); first | done | rfl) ?_; (with_reducible refine (partitalaw01_examples.calls k  true _ ?side1 A4.out).mono ?_); (case side1 => exact GW.step HG_.out (by repeat (first | (with_reducible first | exact HB.out | apply below_alloc | apply pw_below_drewN | apply below_drew1 | refine below_set ?_ GE586.out) | exact HB.out))); rintro e w20 ⟨rfl, hb⟩; refine ⟨_, rfl, ?_⟩; have n0_ := Aside0.mk (blk_below (g := gb586) (o := .cells #[.int .i64 a0_0, .int .i64 a0_1] 23 (0, 0)) (by (with_reducible repeat (first | refine blk_drewN ?_ _ | refine blk_drew ?_ | refine blk_alloc ?_ _)); exact BK586.out) hb); have n1_ := Aside0.mk (below_step (by repeat (first | (with_reducible first | exact HB.out | apply below_alloc | apply pw_below_drewN | apply below_drew1 | refine below_set ?_ GE586.out) | exact HB.out)) hb); clear BK586; clear HB; have BK586 := n0_; have HB := n1_; clear n0_ n1_; (try clear hb); (try clear hb2); (try clear hk); (try clear hi); have hcz21_0 : w20.cell? ⟨gb586, 0, none⟩ = some (.int .i64 a0_0) := (blk_cell BK586.out 0).trans rfl; have hcz21_1 : w20.cell? ⟨gb586, 1, none⟩ = some (.int .i64 a0_1) := (blk_cell BK586.out 1).trans rfl; have hfz21_0 := blk_frozen BK586.out 0; have hfz21_1 := blk_frozen BK586.out 1) | ((with_reducible refine gate_callee (f := 17) rfl ?_); refine goesL_ (some 26) rfl rfl Tryd.func17 (by kernel_rfl) rfl #[.agg #[.int .i64 a0_0, .int .i64 a0_1]] rfl (by (try simp only [List.map_toArray, List.map_cons, List.map_nil]); first | done | rfl) ?_; (with_reducible refine (partitalaw01_Ratio.calls k a0_0 a0_1 t588 t589 _ A6.out).mono ?_); rintro e w22 ⟨rfl, hb⟩; refine ⟨_, rfl, ?_⟩; have n0_ := Aside0.mk (blk_below (g := gb586) (o := .cells #[.int .i64 a0_0, .int .i64 a0_1] 23 (0, 0)) (by (with_reducible repeat (first | refine blk_drewN ?_ _ | refine blk_drew ?_ | refine blk_alloc ?_ _)); exact BK586.out) hb); have n1_ := Aside0.mk (below_step (by repeat (first | (with_reducible first | exact HB.out | apply below_alloc | apply pw_below_drewN | apply below_drew1 | refine below_set ?_ GE586.out) | exact HB.out)) hb); clear BK586; clear HB; have BK586 := n0_; have HB := n1_; clear n0_ n1_; (try clear hb); (try clear hb2); (try clear hk); (try clear hi)) | ((with_reducible refine gate_dst (N := 8) rfl ?_); refine box_event ?hg (N := 8) ?hd (cs := #[.int .i64 0, .int .i64 0]) (t := 23) ?hr ?_; (case hd => rfl); (case hg => rfl); (case hr => first | (go_simp; done) | (go_simp; rfl)); intro gb590 hg w23 hbox hb; have n0_ := Aside0.mk (blk_below (g := gb586) (o := .cells #[.int .i64 a0_0, .int .i64 a0_1] 23 (0, 0)) (by (with_reducible repeat (first | refine blk_drewN ?_ _ | refine blk_drew ?_ | refine blk_alloc ?_ _)); exact BK586.out) hb); have n1_ := Aside0.mk (below_step (by repeat (first | (with_reducible first | exact HB.out | apply below_alloc | apply pw_below_drewN | apply below_drew1 | refine below_set ?_ GE586.out) | exact HB.out)) hb); have n2_ := Aside0.mk (hbox); have n3_ := Aside0.mk ((by rw [hg]; exact (below_size (by repeat (first | (with_reducible first | exact HB.out | apply below_alloc | apply pw_below_drewN | apply below_drew1 | refine below_set ?_ GE586.out) | exact HB.out))) : w.heap.size ≤ gb590)); have n4_ := n3_; have n5_ := Aside0.mk ((by rw [hg]; exact Nat.ne_of_lt (blk_lt (g := gb586) (o := .cells #[.int .i64 a0_0, .int .i64 a0_1] 23 (0, 0)) (by (with_reducible repeat (first | refine blk_drewN ?_ _ | refine blk_drew ?_ | refine blk_alloc ?_ _)); exact BK586.out)) : gb586 ≠ gb590)); have n6_ := Aside0.mk n5_.out.symm; clear BK586; clear HB; have BK586 := n0_; have HB := n1_; have BK590 := n2_; have GW590 := n3_; have GE590 := n4_; have NB586_590 := n5_; have NB590_586 := n6_; clear n0_ n1_ n2_ n3_ n4_ n5_ n6_; clear hb hbox hg; have hnb24 := NB590_586.out; have hnc24 := NB586_590.out; have hcz25_0 : w23.cell? ⟨gb590, 0, none⟩ = some (.int .i64 0) := (blk_cell BK590.out 0).trans rfl; have hcz25_1 : w23.cell? ⟨gb590, 1, none⟩ = some (.int .i64 0) := (blk_cell BK590.out 1).trans rfl; have hfz25_0 := blk_frozen BK590.out 0; have hfz25_1 := blk_frozen BK590.out 1) | ((with_reducible refine gate_callee (f := 26) rfl ?_); refine goesL_ (some 29) rfl rfl Tryd.func26 (by kernel_rfl) rfl #[.agg #[.int .i64 t588, .int .i64 t589]] rfl (by (try simp only [List.map_toArray, List.map_cons, List.map_nil]); first | done | rfl) ?_; (with_reducible refine (ratio_Text.calls k t588 t589 t591 t592 _ ?side1 A7.out).mono ?_); (case side1 => exact GW.step HG_.out (by repeat (first | (with_reducible first | exact HB.out | apply below_alloc | apply pw_below_drewN | apply below_drew1 | refine below_set ?_ GE586.out | refine below_set ?_ GE590.out) | exact HB.out))); rintro e w26 ⟨rfl, hb⟩; refine ⟨_, rfl, ?_⟩; have n0_ := Aside0.mk (blk_below (g := gb586) (o := .cells #[.int .i64 a0_0, .int .i64 a0_1] 23 (0, 0)) (by (with_reducible repeat (first | refine blk_drewN ?_ _ | refine blk_drew ?_ | refine blk_alloc ?_ _)); refine blk_far ?_ NB586_590.out _; (with_reducible repeat (first | refine blk_drewN ?_ _ | refine blk_drew ?_ | refine blk_alloc ?_ _)); refine blk_far ?_ NB586_590.out _; (with_reducible repeat (first | refine blk_drewN ?_ _ | refine blk_drew ?_ | refine blk_alloc ?_ _)); exact BK586.out) hb); have n1_ := Aside0.mk (blk_below (g := gb590) (o := .cells #[.int .i64 t588, .int .i64 t589] 23 (0, 0)) (by (with_reducible repeat (first | refine blk_drewN ?_ _ | refine blk_drew ?_ | refine blk_alloc ?_ _)); refine blk_put (cs := #[.int .i64 t588, .int .i64 0]) ?_ 1 _ rfl; (with_reducible repeat (first | refine blk_drewN ?_ _ | refine blk_drew ?_ | refine blk_alloc ?_ _)); refine blk_put (cs := #[.int .i64 0, .int .i64 0]) ?_ 0 _ rfl; (with_reducible repeat (first | refine blk_drewN ?_ _ | refine blk_drew ?_ | refine blk_alloc ?_ _)); exact BK590.out) hb); have n2_ := Aside0.mk (below_step (by repeat (first | (with_reducible first | exact HB.out | apply below_alloc | apply pw_below_drewN | apply below_drew1 | refine below_set ?_ GE586.out | refine below_set ?_ GE590.out) | exact HB.out)) hb); clear BK586; clear BK590; clear HB; have BK586 := n0_; have BK590 := n1_; have HB := n2_; clear n0_ n1_ n2_; (try clear hb); (try clear hb2); (try clear hk); (try clear hi)) | ((with_reducible refine gate_callee (f := 14) rfl ?_); refine goesL_ (some 34) rfl rfl Tryd.func14 (by kernel_rfl) rfl #[.string t591] rfl (by (try simp only [List.map_toArray, List.map_cons, List.map_nil]); first | done | rfl) ?_; (with_reducible refine (ratio_Read.calls k t591 t593 t594 t595 _ ?side1 A8.out).mono ?_); (case side1 => exact GW.step HG_.out (by repeat (first | (with_reducible first | exact HB.out | apply below_alloc | apply pw_below_drewN | apply below_drew1 | refine below_set ?_ GE586.out | refine below_set ?_ GE590.out) | exact HB.out))); rintro e w27 ⟨rfl, hb⟩; refine ⟨_, rfl, ?_⟩; have n0_ := Aside0.mk (blk_below (g := gb586) (o := .cells #[.int .i64 a0_0, .int .i64 a0_1] 23 (0, 0)) (by (with_reducible repeat (first | refine blk_drewN ?_ _ | refine blk_drew ?_ | refine blk_alloc ?_ _)); exact BK586.out) hb); have n1_ := Aside0.mk (blk_below (g := gb590) (o := .cells #[.int .i64 t588, .int .i64 t589] 23 (0, 0)) (by (with_reducible repeat (first | refine blk_drewN ?_ _ | refine blk_drew ?_ | refine blk_alloc ?_ _)); exact BK590.out) hb); have n2_ := Aside0.mk (below_step (by repeat (first | (with_reducible first | exact HB.out | apply below_alloc | apply pw_below_drewN | apply below_drew1 | refine below_set ?_ GE586.out | refine below_set ?_ GE590.out) | exact HB.out)) hb); clear BK586; clear BK590; clear HB; have BK586 := n0_; have BK590 := n1_; have HB := n2_; clear n0_ n1_ n2_; (try clear hb); (try clear hb2); (try clear hk); (try clear hi)) | ((with_reducible refine gate_dst (N := 11) rfl ?_); refine box_event ?hg (N := 11) ?hd (cs := #[.int .i64 0, .int .i64 0]) (t := 23) ?hr ?_; (case hd => rfl); (case hg => rfl); (case hr => first | (go_simp; done) | (go_simp; rfl)); intro gb596 hg w28 hbox hb; have n0_ := Aside0.mk (blk_below (g := gb586) (o := .cells #[.int .i64 a0_0, .int .i64 a0_1] 23 (0, 0)) (by (with_reducible repeat (first | refine blk_drewN ?_ _ | refine blk_drew ?_ | refine blk_alloc ?_ _)); exact BK586.out) hb); have n1_ := Aside0.mk (blk_below (g := gb590) (o := .cells #[.int .i64 t588, .int .i64 t589] 23 (0, 0)) (by (with_reducible repeat (first | refine blk_drewN ?_ _ | refine blk_drew ?_ | refine blk_alloc ?_ _)); exact BK590.out) hb); have n2_ := Aside0.mk (below_step (by repeat (first | (with_reducible first | exact HB.out | apply below_alloc | apply pw_below_drewN | apply below_drew1 | refine below_set ?_ GE586.out | refine below_set ?_ GE590.out) | exact HB.out)) hb); have n3_ := Aside0.mk (hbox); have n4_ := Aside0.mk ((by rw [hg]; exact (below_size (by repeat (first | (with_reducible first | exact HB.out | apply below_alloc | apply pw_below_drewN | apply below_drew1 | refine below_set ?_ GE586.out | refine below_set ?_ GE590.out) | exact HB.out))) : w.heap.size ≤ gb596)); have n5_ := n4_; have n6_ := Aside0.mk ((by rw [hg]; exact Nat.ne_of_lt (blk_lt (g := gb586) (o := .cells #[.int .i64 a0_0, .int .i64 a0_1] 23 (0, 0)) (by (with_reducible repeat (first | refine blk_drewN ?_ _ | refine blk_drew ?_ | refine blk_alloc ?_ _)); exact BK586.out)) : gb586 ≠ gb596)); have n7_ := Aside0.mk n6_.out.symm; have n8_ := Aside0.mk ((by rw [hg]; exact Nat.ne_of_lt (blk_lt (g := gb590) (o := .cells #[.int .i64 t588, .int .i64 t589] 23 (0, 0)) (by (with_reducible repeat (first | refine blk_drewN ?_ _ | refine blk_drew ?_ | refine blk_alloc ?_ _)); exact BK590.out)) : gb590 ≠ gb596)); have n9_ := Aside0.mk n8_.out.symm; clear BK586; clear BK590; clear HB; have BK586 := n0_; have BK590 := n1_; have HB := n2_; have BK596 := n3_; have GW596 := n4_; have GE596 := n5_; have NB586_596 := n6_; have NB596_586 := n7_; have NB590_596 := n8_; have NB596_590 := n9_; clear n0_ n1_ n2_ n3_ n4_ n5_ n6_ n7_ n8_ n9_; clear hb hbox hg; have hnb29 := NB596_586.out; have hnc29 := NB586_596.out; have hnb30 := NB596_590.out; have hnc30 := NB590_596.out; have hcz31_0 : w28.cell? ⟨gb596, 0, none⟩ = some (.int .i64 0) := (blk_cell BK596.out 0).trans rfl; have hcz31_1 : w28.cell? ⟨gb596, 1, none⟩ = some (.int .i64 0) := (blk_cell BK596.out 1).trans rfl; have hfz31_0 := blk_frozen BK596.out 0; have hfz31_1 := blk_frozen BK596.out 1) | ((with_reducible refine gate_callee (f := 14) rfl ?_); refine goesL_ (some 44) rfl rfl Tryd.func14 (by kernel_rfl) rfl #[.string (a1.extract 0 ((ji9) : Int).toNat)] rfl (by (try simp only [List.map_toArray, List.map_cons, List.map_nil]); first | done | (simp only [hji9]; rfl) | rfl | (simp only [List.length_drop, List.length_take]; rfl)) ?_; (with_reducible refine (ratio_Read.calls k (a1.extract 0 ((ji9) : Int).toNat) t597 t598 t599 _ ?side1 A12.out).mono ?_); (case side1 => exact GW.step HG_.out (by repeat (first | (with_reducible first | exact HB.out | apply below_alloc | apply pw_below_drewN | apply below_drew1 | refine below_set ?_ GE586.out | refine below_set ?_ GE590.out | refine below_set ?_ GE596.out) | exact HB.out))); rintro e w32 ⟨rfl, hb⟩; refine ⟨_, rfl, ?_⟩; have n0_ := Aside0.mk (blk_below (g := gb586) (o := .cells #[.int .i64 a0_0, .int .i64 a0_1] 23 (0, 0)) (by (with_reducible repeat (first | refine blk_drewN ?_ _ | refine blk_drew ?_ | refine blk_alloc ?_ _)); refine blk_far ?_ NB586_596.out _; (with_reducible repeat (first | refine blk_drewN ?_ _ | refine blk_drew ?_ | refine blk_alloc ?_ _)); refine blk_far ?_ NB586_596.out _; (with_reducible repeat (first | refine blk_drewN ?_ _ | refine blk_drew ?_ | refine blk_alloc ?_ _)); exact BK586.out) hb); have n1_ := Aside0.mk (blk_below (g := gb590) (o := .cells #[.int .i64 t588, .int .i64 t589] 23 (0, 0)) (by (with_reducible repeat (first | refine blk_drewN ?_ _ | refine blk_drew ?_ | refine blk_alloc ?_ _)); refine blk_far ?_ NB590_596.out _; (with_reducible repeat (first | refine blk_drewN ?_ _ | refine blk_drew ?_ | refine blk_alloc ?_ _)); refine blk_far ?_ NB590_596.out _; (with_reducible repeat (first | refine blk_drewN ?_ _ | refine blk_drew ?_ | refine blk_alloc ?_ _)); exact BK590.out) hb); have n2_ := Aside0.mk (blk_below (g := gb596) (o := .cells #[.int .i64 t593, .int .i64 t594] 23 (0, 0)) (by (with_reducible repeat (first | refine blk_drewN ?_ _ | refine blk_drew ?_ | refine blk_alloc ?_ _)); refine blk_put (cs := #[.int .i64 t593, .int .i64 0]) ?_ 1 _ rfl; (with_reducible repeat (first | refine blk_drewN ?_ _ | refine blk_drew ?_ | refine blk_alloc ?_ _)); refine blk_put (cs := #[.int .i64 0, .int .i64 0]) ?_ 0 _ rfl; (with_reducible repeat (first | refine blk_drewN ?_ _ | refine blk_drew ?_ | refine blk_alloc ?_ _)); exact BK596.out) hb); have n3_ := Aside0.mk (below_step (by repeat (first | (with_reducible first | exact HB.out | apply below_alloc | apply pw_below_drewN | apply below_drew1 | refine below_set ?_ GE586.out | refine below_set ?_ GE590.out | refine below_set ?_ GE596.out) | exact HB.out)) hb); clear BK586; clear BK590; clear BK596; clear HB; have BK586 := n0_; have BK590 := n1_; have BK596 := n2_; have HB := n3_; clear n0_ n1_ n2_ n3_; (try clear hb); (try clear hb2); (try clear hk); (try clear hi)) | ((with_reducible refine gate_dst (N := 14) rfl ?_); refine box_event ?hg (N := 14) ?hd (cs := #[.int .i64 0, .int .i64 0]) (t := 23) ?hr ?_; (case hd => rfl); (case hg => rfl); (case hr => first | (go_simp; done) | (go_simp; rfl)); intro gb600 hg w33 hbox hb; have n0_ := Aside0.mk (blk_below (g := gb586) (o := .cells #[.int .i64 a0_0, .int .i64 a0_1] 23 (0, 0)) (by (with_reducible repeat (first | refine blk_drewN ?_ _ | refine blk_drew ?_ | refine blk_alloc ?_ _)); exact BK586.out) hb); have n1_ := Aside0.mk (blk_below (g := gb590) (o := .cells #[.int .i64 t588, .int .i64 t589] 23 (0, 0)) (by (with_reducible repeat (first | refine blk_drewN ?_ _ | refine blk_drew ?_ | refine blk_alloc ?_ _)); exact BK590.out) hb); have n2_ := Aside0.mk (blk_below (g := gb596) (o := .cells #[.int .i64 t593, .int .i64 t594] 23 (0, 0)) (by (with_reducible repeat (first | refine blk_drewN ?_ _ | refine blk_drew ?_ | refine blk_alloc ?_ _)); exact BK596.out) hb); have n3_ := Aside0.mk (below_step (by repeat (first | (with_reducible first | exact HB.out | apply below_alloc | apply pw_below_drewN | apply below_drew1 | refine below_set ?_ GE586.out | refine below_set ?_ GE590.out | refine below_set ?_ GE596.out) | exact HB.out)) hb); have n4_ := Aside0.mk (hbox); have n5_ := Aside0.mk ((by rw [hg]; exact (below_size (by repeat (first | (with_reducible first | exact HB.out | apply below_alloc | apply pw_below_drewN | apply below_drew1 | refine below_set ?_ GE586.out | refine below_set ?_ GE590.out | refine below_set ?_ GE596.out) | exact HB.out))) : w.heap.size ≤ gb600)); have n6_ := n5_; have n7_ := Aside0.mk ((by rw [hg]; exact Nat.ne_of_lt (blk_lt (g := gb586) (o := .cells #[.int .i64 a0_0, .int .i64 a0_1] 23 (0, 0)) (by (with_reducible repeat (first | refine blk_drewN ?_ _ | refine blk_drew ?_ | refine blk_alloc ?_ _)); exact BK586.out)) : gb586 ≠ gb600)); have n8_ := Aside0.mk n7_.out.symm; have n9_ := Aside0.mk ((by rw [hg]; exact Nat.ne_of_lt (blk_lt (g := gb590) (o := .cells #[.int .i64 t588, .int .i64 t589] 23 (0, 0)) (by (with_reducible repeat (first | refine blk_drewN ?_ _ | refine blk_drew ?_ | refine blk_alloc ?_ _)); exact BK590.out)) : gb590 ≠ gb600)); have n10_ := Aside0.mk n9_.out.symm; have n11_ := Aside0.mk ((by rw [hg]; exact Nat.ne_of_lt (blk_lt (g := gb596) (o := .cells #[.int .i64 t593, .int .i64 t594] 23 (0, 0)) (by (with_reducible repeat (first | refine blk_drewN ?_ _ | refine blk_drew ?_ | refine blk_alloc ?_ _)); exact BK596.out)) : gb596 ≠ gb600)); have n12_ := Aside0.mk n11_.out.symm; clear BK586; clear BK590; clear BK596; clear HB; have BK586 := n0_; have BK590 := n1_; have BK596 := n2_; have HB := n3_; have BK600 := n4_; have GW600 := n5_; have GE600 := n6_; have NB586_600 := n7_; have NB600_586 := n8_; have NB590_600 := n9_; have NB600_590 := n10_; have NB596_600 := n11_; have NB600_596 := n12_; clear n0_ n1_ n2_ n3_ n4_ n5_ n6_ n7_ n8_ n9_ n10_ n11_ n12_; clear hb hbox hg; have hnb34 := NB600_586.out; have hnc34 := NB586_600.out; have hnb35 := NB600_590.out; have hnc35 := NB590_600.out; have hnb36 := NB600_596.out; have hnc36 := NB596_600.out; have hcz37_0 : w33.cell? ⟨gb600, 0, none⟩ = some (.int .i64 0) := (blk_cell BK600.out 0).trans rfl; have hcz37_1 : w33.cell? ⟨gb600, 1, none⟩ = some (.int .i64 0) := (blk_cell BK600.out 1).trans rfl; have hfz37_0 := blk_frozen BK600.out 0; have hfz37_1 := blk_frozen BK600.out 1) | ((with_reducible refine gate_callee (f := 26) rfl ?_); refine goesL_ (some 49) rfl rfl Tryd.func26 (by kernel_rfl) rfl #[.agg #[.int .i64 t597, .int .i64 t598]] rfl (by (try simp only [List.map_toArray, List.map_cons, List.map_nil]); first | done | rfl) ?_; (with_reducible refine (ratio_Text.calls k t597 t598 t601 t602 _ ?side1 A13.out).mono ?_); (case side1 => exact GW.step HG_.out (by repeat (first | (with_reducible first | exact HB.out | apply below_alloc | apply pw_below_drewN | apply below_drew1 | refine below_set ?_ GE586.out | refine below_set ?_ GE590.out | refine below_set ?_ GE596.out | refine below_set ?_ GE600.out) | exact HB.out))); rintro e w38 ⟨rfl, hb⟩; refine ⟨_, rfl, ?_⟩; have n0_ := Aside0.mk (blk_below (g := gb586) (o := .cells #[.int .i64 a0_0, .int .i64 a0_1] 23 (0, 0)) (by (with_reducible repeat (first | refine blk_drewN ?_ _ | refine blk_drew ?_ | refine blk_alloc ?_ _)); refine blk_far ?_ NB586_600.out _; (with_reducible repeat (first | refine blk_drewN ?_ _ | refine blk_drew ?_ | refine blk_alloc ?_ _)); refine blk_far ?_ NB586_600.out _; (with_reducible repeat (first | refine blk_drewN ?_ _ | refine blk_drew ?_ | refine blk_alloc ?_ _)); exact BK586.out) hb); have n1_ := Aside0.mk (blk_below (g := gb590) (o := .cells #[.int .i64 t588, .int .i64 t589] 23 (0, 0)) (by (with_reducible repeat (first | refine blk_drewN ?_ _ | refine blk_drew ?_ | refine blk_alloc ?_ _)); refine blk_far ?_ NB590_600.out _; (with_reducible repeat (first | refine blk_drewN ?_ _ | refine blk_drew ?_ | refine blk_alloc ?_ _)); refine blk_far ?_ NB590_600.out _; (with_reducible repeat (first | refine blk_drewN ?_ _ | refine blk_drew ?_ | refine blk_alloc ?_ _)); exact BK590.out) hb); have n2_ := Aside0.mk (blk_below (g := gb596) (o := .cells #[.int .i64 t593, .int .i64 t594] 23 (0, 0)) (by (with_reducible repeat (first | refine blk_drewN ?_ _ | refine blk_drew ?_ | refine blk_alloc ?_ _)); refine blk_far ?_ NB596_600.out _; (with_reducible repeat (first | refine blk_drewN ?_ _ | refine blk_drew ?_ | refine blk_alloc ?_ _)); refine blk_far ?_ NB596_600.out _; (with_reducible repeat (first | refine blk_drewN ?_ _ | refine blk_drew ?_ | refine blk_alloc ?_ _)); exact BK596.out) hb); have n3_ := Aside0.mk (blk_below (g := gb600) (o := .cells #[.int .i64 t597, .int .i64 t598] 23 (0, 0)) (by (with_reducible repeat (first | refine blk_drewN ?_ _ | refine blk_drew ?_ | refine blk_alloc ?_ _)); refine blk_put (cs := #[.int .i64 t597, .int .i64 0]) ?_ 1 _ rfl; (with_reducible repeat (first | refine blk_drewN ?_ _ | refine blk_drew ?_ | refine blk_alloc ?_ _)); refine blk_put (cs := #[.int .i64 0, .int .i64 0]) ?_ 0 _ rfl; (with_reducible repeat (first | refine blk_drewN ?_ _ | refine blk_drew ?_ | refine blk_alloc ?_ _)); exact BK600.out) hb); have n4_ := Aside0.mk (below_step (by repeat (first | (with_reducible first | exact HB.out | apply below_alloc | apply pw_below_drewN | apply below_drew1 | refine below_set ?_ GE586.out | refine below_set ?_ GE590.out | refine below_set ?_ GE596.out | refine below_set ?_ GE600.out) | exact HB.out)) hb); clear BK586; clear BK590; clear BK596; clear BK600; clear HB; have BK586 := n0_; have BK590 := n1_; have BK596 := n2_; have BK600 := n3_; have HB := n4_; clear n0_ n1_ n2_ n3_ n4_; (try clear hb); (try clear hb2); (try clear hk); (try clear hi)) | ((with_reducible refine gate_callee (f := 14) rfl ?_); refine goesL_ (some 55) rfl rfl Tryd.func14 (by kernel_rfl) rfl #[.string ((⟨#[48]⟩ : ByteArray) ++ t591)] rfl (by (try simp only [List.map_toArray, List.map_cons, List.map_nil]); first | done | rfl) ?_; (with_reducible refine (ratio_Read.calls k ((⟨#[48]⟩ : ByteArray) ++ t591) t603 t604 t605 _ ?side1 A15.out).mono ?_); (case side1 => exact GW.step HG_.out (by repeat (first | (with_reducible first | exact HB.out | apply below_alloc | apply pw_below_drewN | apply below_drew1 | refine below_set ?_ GE586.out | refine below_set ?_ GE590.out | refine below_set ?_ GE596.out | refine below_set ?_ GE600.out) | exact HB.out))); rintro e w39 ⟨rfl, hb⟩; refine ⟨_, rfl, ?_⟩; have n0_ := Aside0.mk (blk_below (g := gb586) (o := .cells #[.int .i64 a0_0, .int .i64 a0_1] 23 (0, 0)) (by (with_reducible repeat (first | refine blk_drewN ?_ _ | refine blk_drew ?_ | refine blk_alloc ?_ _)); exact BK586.out) hb); have n1_ := Aside0.mk (blk_below (g := gb590) (o := .cells #[.int .i64 t588, .int .i64 t589] 23 (0, 0)) (by (with_reducible repeat (first | refine blk_drewN ?_ _ | refine blk_drew ?_ | refine blk_alloc ?_ _)); exact BK590.out) hb); have n2_ := Aside0.mk (blk_below (g := gb596) (o := .cells #[.int .i64 t593, .int .i64 t594] 23 (0, 0)) (by (with_reducible repeat (first | refine blk_drewN ?_ _ | refine blk_drew ?_ | refine blk_alloc ?_ _)); exact BK596.out) hb); have n3_ := Aside0.mk (blk_below (g := gb600) (o := .cells #[.int .i64 t597, .int .i64 t598] 23 (0, 0)) (by (with_reducible repeat (first | refine blk_drewN ?_ _ | refine blk_drew ?_ | refine blk_alloc ?_ _)); exact BK600.out) hb); have n4_ := Aside0.mk (below_step (by repeat (first | (with_reducible first | exact HB.out | apply below_alloc | apply pw_below_drewN | apply below_drew1 | refine below_set ?_ GE586.out | refine below_set ?_ GE590.out | refine below_set ?_ GE596.out | refine below_set ?_ GE600.out) | exact HB.out)) hb); clear BK586; clear BK590; clear BK596; clear BK600; clear HB; have BK586 := n0_; have BK590 := n1_; have BK596 := n2_; have BK600 := n3_; have HB := n4_; clear n0_ n1_ n2_ n3_ n4_; (try clear hb); (try clear hb2); (try clear hk); (try clear hi)) | ((with_reducible refine gate_dst (N := 18) rfl ?_); refine box_event ?hg (N := 18) ?hd (cs := #[.int .i64 0, .int .i64 0]) (t := 23) ?hr ?_; (case hd => rfl); (case hg => rfl); (case hr => first | (go_simp; done) | (go_simp; rfl)); intro gb606 hg w40 hbox hb; have n0_ := Aside0.mk (blk_below (g := gb586) (o := .cells #[.int .i64 a0_0, .int .i64 a0_1] 23 (0, 0)) (by (with_reducible repeat (first | refine blk_drewN ?_ _ | refine blk_drew ?_ | refine blk_alloc ?_ _)); exact BK586.out) hb); have n1_ := Aside0.mk (blk_below (g := gb590) (o := .cells #[.int .i64 t588, .int .i64 t589] 23 (0, 0)) (by (with_reducible repeat (first | refine blk_drewN ?_ _ | refine blk_drew ?_ | refine blk_alloc ?_ _)); exact BK590.out) hb); have n2_ := Aside0.mk (blk_below (g := gb596) (o := .cells #[.int .i64 t593, .int .i64 t594] 23 (0, 0)) (by (with_reducible repeat (first | refine blk_drewN ?_ _ | refine blk_drew ?_ | refine blk_alloc ?_ _)); exact BK596.out) hb); have n3_ := Aside0.mk (blk_below (g := gb600) (o := .cells #[.int .i64 t597, .int .i64 t598] 23 (0, 0)) (by (with_reducible repeat (first | refine blk_drewN ?_ _ | refine blk_drew ?_ | refine blk_alloc ?_ _)); exact BK600.out) hb); have n4_ := Aside0.mk (below_step (by repeat (first | (with_reducible first | exact HB.out | apply below_alloc | apply pw_below_drewN | apply below_drew1 | refine below_set ?_ GE586.out | refine below_set ?_ GE590.out | refine below_set ?_ GE596.out | refine below_set ?_ GE600.out) | exact HB.out)) hb); have n5_ := Aside0.mk (hbox); have n6_ := Aside0.mk ((by rw [hg]; exact (below_size (by repeat (first | (with_reducible first | exact HB.out | apply below_alloc | apply pw_below_drewN | apply below_drew1 | refine below_set ?_ GE586.out | refine below_set ?_ GE590.out | refine below_set ?_ GE596.out | refine below_set ?_ GE600.out) | exact HB.out))) : w.heap.size ≤ gb606)); have n7_ := n6_; have n8_ := Aside0.mk ((by rw [hg]; exact Nat.ne_of_lt (blk_lt (g := gb586) (o := .cells #[.int .i64 a0_0, .int .i64 a0_1] 23 (0, 0)) (by (with_reducible repeat (first | refine blk_drewN ?_ _ | refine blk_drew ?_ | refine blk_alloc ?_ _)); exact BK586.out)) : gb586 ≠ gb606)); have n9_ := Aside0.mk n8_.out.symm; have n10_ := Aside0.mk ((by rw [hg]; exact Nat.ne_of_lt (blk_lt (g := gb590) (o := .cells #[.int .i64 t588, .int .i64 t589] 23 (0, 0)) (by (with_reducible repeat (first | refine blk_drewN ?_ _ | refine blk_drew ?_ | refine blk_alloc ?_ _)); exact BK590.out)) : gb590 ≠ gb606)); have n11_ := Aside0.mk n10_.out.symm; have n12_ := Aside0.mk ((by rw [hg]; exact Nat.ne_of_lt (blk_lt (g := gb596) (o := .cells #[.int .i64 t593, .int .i64 t594] 23 (0, 0)) (by (with_reducible repeat (first | refine blk_drewN ?_ _ | refine blk_drew ?_ | refine blk_alloc ?_ _)); exact BK596.out)) : gb596 ≠ gb606)); have n13_ := Aside0.mk n12_.out.symm; have n14_ := Aside0.mk ((by rw [hg]; exact Nat.ne_of_lt (blk_lt (g := gb600) (o := .cells #[.int .i64 t597, .int .i64 t598] 23 (0, 0)) (by (with_reducible repeat (first | refine blk_drewN ?_ _ | refine blk_drew ?_ | refine blk_alloc ?_ _)); exact BK600.out)) : gb600 ≠ gb606)); have n15_ := Aside0.mk n14_.out.symm; clear BK586; clear BK590; clear BK596; clear BK600; clear HB; have BK586 := n0_; have BK590 := n1_; have BK596 := n2_; have BK600 := n3_; have HB := n4_; have BK606 := n5_; have GW606 := n6_; have GE606 := n7_; have NB586_606 := n8_; have NB606_586 := n9_; have NB590_606 := n10_; have NB606_590 := n11_; have NB596_606 := n12_; have NB606_596 := n13_; have NB600_606 := n14_; have NB606_600 := n15_; clear n0_ n1_ n2_ n3_ n4_ n5_ n6_ n7_ n8_ n9_ n10_ n11_ n12_ n13_ n14_ n15_; clear hb hbox hg; have hnb41 := NB606_586.out; have hnc41 := NB586_606.out; have hnb42 := NB606_590.out; have hnc42 := NB590_606.out; have hnb43 := NB606_596.out; have hnc43 := NB596_606.out; have hnb44 := NB606_600.out; have hnc44 := NB600_606.out; have hcz45_0 : w40.cell? ⟨gb606, 0, none⟩ = some (.int .i64 0) := (blk_cell BK606.out 0).trans rfl; have hcz45_1 : w40.cell? ⟨gb606, 1, none⟩ = some (.int .i64 0) := (blk_cell BK606.out 1).trans rfl; have hfz45_0 := blk_frozen BK606.out 0; have hfz45_1 := blk_frozen BK606.out 1) | ((with_reducible refine gate_dst (N := 61) rfl ?_); refine Kd.R_lit (Kd.int .u8) _ 5 ?hg (N := 61) ?hd (xs := ([a2] : List Int)) (inner := [.int .u8 a2]) (ok := fun _ => True) (okp := fun _ => True) ?hr ?hp (fun _ hk => hk) trivial (Below.refl _ _) (Nat.le_refl _) (by simp) ?_; (case hd => rfl); (case hg => rfl); (case hr => first | (go_simp; done) | (go_simp; rfl)); (case hp => exact (Reps.one (show Kd.M (Kd.int .u8) _ _ _ a2 [.int .u8 a2] from rfl) (Reps.none _ _))); intro v608 w46 ho47 hb hg_ hnew_; clear hg_ hnew_; (first | rw [← Ny607.out] at ho47 | (simp only [Int.reduceToNat] at ho47; rw [← Ny607.out] at ho47)); have n0_ := Aside0.mk (Kd.R_lower ho47 (below_size (by repeat (first | (with_reducible first | exact HB.out | apply below_alloc | apply pw_below_drewN | apply below_drew1 | refine below_set ?_ GE586.out | refine below_set ?_ GE590.out | refine below_set ?_ GE596.out | refine below_set ?_ GE600.out | refine below_set ?_ GE606.out) | exact HB.out)))); have n1_ := Aside0.mk (blk_below (g := gb586) (o := .cells #[.int .i64 a0_0, .int .i64 a0_1] 23 (0, 0)) (by (with_reducible repeat (first | refine blk_drewN ?_ _ | refine blk_drew ?_ | refine blk_alloc ?_ _)); refine blk_far ?_ NB586_606.out _; (with_reducible repeat (first | refine blk_drewN ?_ _ | refine blk_drew ?_ | refine blk_alloc ?_ _)); refine blk_far ?_ NB586_606.out _; (with_reducible repeat (first | refine blk_drewN ?_ _ | refine blk_drew ?_ | refine blk_alloc ?_ _)); exact BK586.out) hb); have n2_ := Aside0.mk (blk_below (g := gb590) (o := .cells #[.int .i64 t588, .int .i64 t589] 23 (0, 0)) (by (with_reducible repeat (first | refine blk_drewN ?_ _ | refine blk_drew ?_ | refine blk_alloc ?_ _)); refine blk_far ?_ NB590_606.out _; (with_reducible repeat (first | refine blk_drewN ?_ _ | refine blk_drew ?_ | refine blk_alloc ?_ _)); refine blk_far ?_ NB590_606.out _; (with_reducible repeat (first | refine blk_drewN ?_ _ | refine blk_drew ?_ | refine blk_alloc ?_ _)); exact BK590.out) hb); have n3_ := Aside0.mk (blk_below (g := gb596) (o := .cells #[.int .i64 t593, .int .i64 t594] 23 (0, 0)) (by (with_reducible repeat (first | refine blk_drewN ?_ _ | refine blk_drew ?_ | refine blk_alloc ?_ _)); refine blk_far ?_ NB596_606.out _; (with_reducible repeat (first | refine blk_drewN ?_ _ | refine blk_drew ?_ | refine blk_alloc ?_ _)); refine blk_far ?_ NB596_606.out _; (with_reducible repeat (first | refine blk_drewN ?_ _ | refine blk_drew ?_ | refine blk_alloc ?_ _)); exact BK596.out) hb); have n4_ := Aside0.mk (blk_below (g := gb600) (o := .cells #[.int .i64 t597, .int .i64 t598] 23 (0, 0)) (by (with_reducible repeat (first | refine blk_drewN ?_ _ | refine blk_drew ?_ | refine blk_alloc ?_ _)); refine blk_far ?_ NB600_606.out _; (with_reducible repeat (first | refine blk_drewN ?_ _ | refine blk_drew ?_ | refine blk_alloc ?_ _)); refine blk_far ?_ NB600_606.out _; (with_reducible repeat (first | refine blk_drewN ?_ _ | refine blk_drew ?_ | refine blk_alloc ?_ _)); exact BK600.out) hb); have n5_ := Aside0.mk (blk_below (g := gb606) (o := .cells #[.int .i64 t603, .int .i64 t604] 23 (0, 0)) (by (with_reducible repeat (first | refine blk_drewN ?_ _ | refine blk_drew ?_ | refine blk_alloc ?_ _)); refine blk_put (cs := #[.int .i64 t603, .int .i64 0]) ?_ 1 _ rfl; (with_reducible repeat (first | refine blk_drewN ?_ _ | refine blk_drew ?_ | refine blk_alloc ?_ _)); refine blk_put (cs := #[.int .i64 0, .int .i64 0]) ?_ 0 _ rfl; (with_reducible repeat (first | refine blk_drewN ?_ _ | refine blk_drew ?_ | refine blk_alloc ?_ _)); exact BK606.out) hb); have n6_ := Aside0.mk (below_step (by repeat (first | (with_reducible first | exact HB.out | apply below_alloc | apply pw_below_drewN | apply below_drew1 | refine below_set ?_ GE586.out | refine below_set ?_ GE590.out | refine below_set ?_ GE596.out | refine below_set ?_ GE600.out | refine below_set ?_ GE606.out) | exact HB.out)) hb); clear BK586; clear BK590; clear BK596; clear BK600; clear BK606; clear HB; have HO609 := n0_; have BK586 := n1_; have BK590 := n2_; have BK596 := n3_; have BK600 := n4_; have BK606 := n5_; have HB := n6_; clear n0_ n1_ n2_ n3_ n4_ n5_ n6_; clear hb ho47; have hcv48 := own_string (P := Tryd.prog) Tryd.underlying42 Tryd.underlying5 Tryd.underlying9 (Kd.own_of_R HO609.out)) | ((with_reducible refine gate_callee (f := 14) rfl ?_); refine goesL_ (some 64) rfl rfl Tryd.func14 (by kernel_rfl) rfl #[.string (t591 ++ (strOfNums y607))] rfl (by (try simp only [List.map_toArray, List.map_cons, List.map_nil]); first | done | rfl) ?_; (with_reducible refine (ratio_Read.calls k (t591 ++ (strOfNums y607)) t610 t611 t612 _ ?side1 A17.out).mono ?_); (case side1 => exact GW.step HG_.out (by repeat (first | (with_reducible first | exact HB.out | apply below_alloc | apply pw_below_drewN | apply below_drew1 | refine below_set ?_ GE586.out | refine below_set ?_ GE590.out | refine below_set ?_ GE596.out | refine below_set ?_ GE600.out | refine below_set ?_ GE606.out) | exact HB.out))); rintro e w49 ⟨rfl, hb⟩; refine ⟨_, rfl, ?_⟩; have n0_ := Aside0.mk (Kd.R_below (by (with_reducible repeat (first | apply Kd.R_alloc | apply Kd.R_drewN | apply Kd.R_drew)); exact HO609.out) hb); have n1_ := Aside0.mk (blk_below (g := gb586) (o := .cells #[.int .i64 a0_0, .int .i64 a0_1] 23 (0, 0)) (by (with_reducible repeat (first | refine blk_drewN ?_ _ | refine blk_drew ?_ | refine blk_alloc ?_ _)); exact BK586.out) hb); have n2_ := Aside0.mk (blk_below (g := gb590) (o := .cells #[.int .i64 t588, .int .i64 t589] 23 (0, 0)) (by (with_reducible repeat (first | refine blk_drewN ?_ _ | refine blk_drew ?_ | refine blk_alloc ?_ _)); exact BK590.out) hb); have n3_ := Aside0.mk (blk_below (g := gb596) (o := .cells #[.int .i64 t593, .int .i64 t594] 23 (0, 0)) (by (with_reducible repeat (first | refine blk_drewN ?_ _ | refine blk_drew ?_ | refine blk_alloc ?_ _)); exact BK596.out) hb); have n4_ := Aside0.mk (blk_below (g := gb600) (o := .cells #[.int .i64 t597, .int .i64 t598] 23 (0, 0)) (by (with_reducible repeat (first | refine blk_drewN ?_ _ | refine blk_drew ?_ | refine blk_alloc ?_ _)); exact BK600.out) hb); have n5_ := Aside0.mk (blk_below (g := gb606) (o := .cells #[.int .i64 t603, .int .i64 t604] 23 (0, 0)) (by (with_reducible repeat (first | refine blk_drewN ?_ _ | refine blk_drew ?_ | refine blk_alloc ?_ _)); exact BK606.out) hb); have n6_ := Aside0.mk (below_step (by repeat (first | (with_reducible first | exact HB.out | apply below_alloc | apply pw_below_drewN | apply below_drew1 | refine below_set ?_ GE586.out | refine below_set ?_ GE590.out | refine below_set ?_ GE596.out | refine below_set ?_ GE600.out | refine below_set ?_ GE606.out) | exact HB.out)) hb); clear HO609; clear BK586; clear BK590; clear BK596; clear BK600; clear BK606; clear HB; have HO609 := n0_; have BK586 := n1_; have BK590 := n2_; have BK596 := n3_; have BK600 := n4_; have BK606 := n5_; have HB := n6_; clear n0_ n1_ n2_ n3_ n4_ n5_ n6_; (try clear hb); (try clear hb2); (try clear hk); (try clear hi)) | ((with_reducible refine gate_dst (N := 20) rfl ?_); refine box_event ?hg (N := 20) ?hd (cs := #[.int .i64 0, .int .i64 0]) (t := 23) ?hr ?_; (case hd => rfl); (case hg => rfl); (case hr => first | (go_simp; done) | (go_simp; rfl)); intro gb613 hg w50 hbox hb; have n0_ := Aside0.mk (Kd.R_below (by (with_reducible repeat (first | apply Kd.R_alloc | apply Kd.R_drewN | apply Kd.R_drew)); exact HO609.out) hb); have n1_ := Aside0.mk (blk_below (g := gb586) (o := .cells #[.int .i64 a0_0, .int .i64 a0_1] 23 (0, 0)) (by (with_reducible repeat (first | refine blk_drewN ?_ _ | refine blk_drew ?_ | refine blk_alloc ?_ _)); exact BK586.out) hb); have n2_ := Aside0.mk (blk_below (g := gb590) (o := .cells #[.int .i64 t588, .int .i64 t589] 23 (0, 0)) (by (with_reducible repeat (first | refine blk_drewN ?_ _ | refine blk_drew ?_ | refine blk_alloc ?_ _)); exact BK590.out) hb); have n3_ := Aside0.mk (blk_below (g := gb596) (o := .cells #[.int .i64 t593, .int .i64 t594] 23 (0, 0)) (by (with_reducible repeat (first | refine blk_drewN ?_ _ | refine blk_drew ?_ | refine blk_alloc ?_ _)); exact BK596.out) hb); have n4_ := Aside0.mk (blk_below (g := gb600) (o := .cells #[.int .i64 t597, .int .i64 t598] 23 (0, 0)) (by (with_reducible repeat (first | refine blk_drewN ?_ _ | refine blk_drew ?_ | refine blk_alloc ?_ _)); exact BK600.out) hb); have n5_ := Aside0.mk (blk_below (g := gb606) (o := .cells #[.int .i64 t603, .int .i64 t604] 23 (0, 0)) (by (with_reducible repeat (first | refine blk_drewN ?_ _ | refine blk_drew ?_ | refine blk_alloc ?_ _)); exact BK606.out) hb); have n6_ := Aside0.mk (below_step (by repeat (first | (with_reducible first | exact HB.out | apply below_alloc | apply pw_below_drewN | apply below_drew1 | refine below_set ?_ GE586.out | refine below_set ?_ GE590.out | refine below_set ?_ GE596.out | refine below_set ?_ GE600.out | refine below_set ?_ GE606.out) | exact HB.out)) hb); have n7_ := Aside0.mk (hbox); have n8_ := Aside0.mk ((by rw [hg]; exact (below_size (by repeat (first | (with_reducible first | exact HB.out | apply below_alloc | apply pw_below_drewN | apply below_drew1 | refine below_set ?_ GE586.out | refine below_set ?_ GE590.out | refine below_set ?_ GE596.out | refine below_set ?_ GE600.out | refine below_set ?_ GE606.out) | exact HB.out))) : w.heap.size ≤ gb613)); have n9_ := n8_; have n10_ := Aside0.mk ((by rw [hg]; exact Nat.ne_of_lt (blk_lt (g := gb586) (o := .cells #[.int .i64 a0_0, .int .i64 a0_1] 23 (0, 0)) (by (with_reducible repeat (first | refine blk_drewN ?_ _ | refine blk_drew ?_ | refine blk_alloc ?_ _)); exact BK586.out)) : gb586 ≠ gb613)); have n11_ := Aside0.mk n10_.out.symm; have n12_ := Aside0.mk ((by rw [hg]; exact Nat.ne_of_lt (blk_lt (g := gb590) (o := .cells #[.int .i64 t588, .int .i64 t589] 23 (0, 0)) (by (with_reducible repeat (first | refine blk_drewN ?_ _ | refine blk_drew ?_ | refine blk_alloc ?_ _)); exact BK590.out)) : gb590 ≠ gb613)); have n13_ := Aside0.mk n12_.out.symm; have n14_ := Aside0.mk ((by rw [hg]; exact Nat.ne_of_lt (blk_lt (g := gb596) (o := .cells #[.int .i64 t593, .int .i64 t594] 23 (0, 0)) (by (with_reducible repeat (first | refine blk_drewN ?_ _ | refine blk_drew ?_ | refine blk_alloc ?_ _)); exact BK596.out)) : gb596 ≠ gb613)); have n15_ := Aside0.mk n14_.out.symm; have n16_ := Aside0.mk ((by rw [hg]; exact Nat.ne_of_lt (blk_lt (g := gb600) (o := .cells #[.int .i64 t597, .int .i64 t598] 23 (0, 0)) (by (with_reducible repeat (first | refine blk_drewN ?_ _ | refine blk_drew ?_ | refine blk_alloc ?_ _)); exact BK600.out)) : gb600 ≠ gb613)); have n17_ := Aside0.mk n16_.out.symm; have n18_ := Aside0.mk ((by rw [hg]; exact Nat.ne_of_lt (blk_lt (g := gb606) (o := .cells #[.int .i64 t603, .int .i64 t604] 23 (0, 0)) (by (with_reducible repeat (first | refine blk_drewN ?_ _ | refine blk_drew ?_ | refine blk_alloc ?_ _)); exact BK606.out)) : gb606 ≠ gb613)); have n19_ := Aside0.mk n18_.out.symm; clear HO609; clear BK586; clear BK590; clear BK596; clear BK600; clear BK606; clear HB; have HO609 := n0_; have BK586 := n1_; have BK590 := n2_; have BK596 := n3_; have BK600 := n4_; have BK606 := n5_; have HB := n6_; have BK613 := n7_; have GW613 := n8_; have GE613 := n9_; have NB586_613 := n10_; have NB613_586 := n11_; have NB590_613 := n12_; have NB613_590 := n13_; have NB596_613 := n14_; have NB613_596 := n15_; have NB600_613 := n16_; have NB613_600 := n17_; have NB606_613 := n18_; have NB613_606 := n19_; clear n0_ n1_ n2_ n3_ n4_ n5_ n6_ n7_ n8_ n9_ n10_ n11_ n12_ n13_ n14_ n15_ n16_ n17_ n18_ n19_; clear hb hbox hg; have hnb51 := NB613_586.out; have hnc51 := NB586_613.out; have hnb52 := NB613_590.out; have hnc52 := NB590_613.out; have hnb53 := NB613_596.out; have hnc53 := NB596_613.out; have hnb54 := NB613_600.out; have hnc54 := NB600_613.out; have hnb55 := NB613_606.out; have hnc55 := NB606_613.out; have hcz56_0 : w50.cell? ⟨gb613, 0, none⟩ = some (.int .i64 0) := (blk_cell BK613.out 0).trans rfl; have hcz56_1 : w50.cell? ⟨gb613, 1, none⟩ = some (.int .i64 0) := (blk_cell BK613.out 1).trans rfl; have hfz56_0 := blk_frozen BK613.out 0; have hfz56_1 := blk_frozen BK613.out 1))
            (try simp only [Act.put, List.setIfInBounds_toArray, List.set_cons_zero, List.set_cons_succ])
            go_cut [81] (fun v81 wc => ∃ (kq : Nat) (x81_17 : Bool), v81 = .bool x81_17 ∧ Aside0 (partitalaw01_RatioText.j0 kq a2 true (a1.extract 0 ((ji9) : Int).toNat) t599 t601 t602 t612 x81_17 t588 t589 t597 t598 t610 t611 = some r) ∧ Aside0 (kq ≤ k) ∧ Aside0 (wc.heap[gb586]? = some (.cells #[.int .i64 a0_0, .int .i64 a0_1] 23 (0, 0))) ∧ Aside0 (wc.heap[gb590]? = some (.cells #[.int .i64 t588, .int .i64 t589] 23 (0, 0))) ∧ Aside0 (wc.heap[gb596]? = some (.cells #[.int .i64 t593, .int .i64 t594] 23 (0, 0))) ∧ Aside0 (wc.heap[gb600]? = some (.cells #[.int .i64 t597, .int .i64 t598] 23 (0, 0))) ∧ Aside0 (wc.heap[gb606]? = some (.cells #[.int .i64 t603, .int .i64 t604] 23 (0, 0))) ∧ Aside0 (wc.heap[gb613]? = some (.cells #[.int .i64 t610, .int .i64 t611] 23 (0, 0))) ∧ Aside0 (Below w.heap.size w wc))
            case first =>
              have H := HC18.out
              clear HC18
              by_cases c57 : t592 = 0
              · rw [if_pos c57] at H
                have c57b0 : (t592 == 0) = true := beq_iff_eq.mpr c57
                have c57b1 : (t592 != 0) = false := bne_eq_false_iff_eq.mpr c57
                clear c57
                (first | rw [c57b0] | (simp only [i64_w, i32_w]; rw [c57b0]) | skip)
                by_cases c58 : t595 = 0
                · rw [if_pos c58] at H
                  have c58b0 : (t595 == 0) = true := beq_iff_eq.mpr c58
                  have c58b1 : (t595 != 0) = false := bne_eq_false_iff_eq.mpr c58
                  clear c58
                  by_cases c59 : (!(t588 == t593) || (!(t589 == t594))) = true
                  · rw [if_pos c59] at H
                    have c59b0 : (!(t588 == t593) || (!(t589 == t594))) = true := c59
                    clear c59
                    have H' := Aside0.mk H
                    clear H
                    have hnb60 := NB590_586.out
                    have hnc60 := NB586_590.out
                    have hnb61 := NB590_596.out
                    have hnc61 := NB596_590.out
                    have hnb62 := NB590_600.out
                    have hnc62 := NB600_590.out
                    have hnb63 := NB590_606.out
                    have hnc63 := NB606_590.out
                    have hnb64 := NB590_613.out
                    have hnc64 := NB613_590.out
                    have hcz65_0 : w50.cell? ⟨gb590, 0, none⟩ = some (.int .i64 t588) := (blk_cell BK590.out 0).trans rfl
                    have hcz65_1 : w50.cell? ⟨gb590, 1, none⟩ = some (.int .i64 t589) := (blk_cell BK590.out 1).trans rfl
                    have hfz65_0 := blk_frozen BK590.out 0
                    have hfz65_1 := blk_frozen BK590.out 1
                    have hnb66 := NB596_586.out
                    have hnc66 := NB586_596.out
                    have hnb67 := NB596_600.out
                    have hnc67 := NB600_596.out
                    have hnb68 := NB596_606.out
                    have hnc68 := NB606_596.out
                    have hnb69 := NB596_613.out
                    have hnc69 := NB613_596.out
                    have hcz70_0 : w50.cell? ⟨gb596, 0, none⟩ = some (.int .i64 t593) := (blk_cell BK596.out 0).trans rfl
                    have hcz70_1 : w50.cell? ⟨gb596, 1, none⟩ = some (.int .i64 t594) := (blk_cell BK596.out 1).trans rfl
                    have hfz70_0 := blk_frozen BK596.out 0
                    have hfz70_1 := blk_frozen BK596.out 1
                    go_wp2
                    go_meet
                    case rel => exact ⟨_, (true), (by first | rfl | (simp; done) | (simp [*]; done)), H', ⟨by first | omega | exact Nat.le_refl _⟩, ⟨by (with_reducible repeat (first | refine blk_drewN ?_ _ | refine blk_drew ?_ | refine blk_alloc ?_ _)); refine blk_far ?_ NB586_613.out _; (with_reducible repeat (first | refine blk_drewN ?_ _ | refine blk_drew ?_ | refine blk_alloc ?_ _)); refine blk_far ?_ NB586_613.out _; (with_reducible repeat (first | refine blk_drewN ?_ _ | refine blk_drew ?_ | refine blk_alloc ?_ _)); exact BK586.out⟩, ⟨by (with_reducible repeat (first | refine blk_drewN ?_ _ | refine blk_drew ?_ | refine blk_alloc ?_ _)); refine blk_far ?_ NB590_613.out _; (with_reducible repeat (first | refine blk_drewN ?_ _ | refine blk_drew ?_ | refine blk_alloc ?_ _)); refine blk_far ?_ NB590_613.out _; (with_reducible repeat (first | refine blk_drewN ?_ _ | refine blk_drew ?_ | refine blk_alloc ?_ _)); exact BK590.out⟩, ⟨by (with_reducible repeat (first | refine blk_drewN ?_ _ | refine blk_drew ?_ | refine blk_alloc ?_ _)); refine blk_far ?_ NB596_613.out _; (with_reducible repeat (first | refine blk_drewN ?_ _ | refine blk_drew ?_ | refine blk_alloc ?_ _)); refine blk_far ?_ NB596_613.out _; (with_reducible repeat (first | refine blk_drewN ?_ _ | refine blk_drew ?_ | refine blk_alloc ?_ _)); exact BK596.out⟩, ⟨by (with_reducible repeat (first | refine blk_drewN ?_ _ | refine blk_drew ?_ | refine blk_alloc ?_ _)); refine blk_far ?_ NB600_613.out _; (with_reducible repeat (first | refine blk_drewN ?_ _ | refine blk_drew ?_ | refine blk_alloc ?_ _)); refine blk_far ?_ NB600_613.out _; (with_reducible repeat (first | refine blk_drewN ?_ _ | refine blk_drew ?_ | refine blk_alloc ?_ _)); exact BK600.out⟩, ⟨by (with_reducible repeat (first | refine blk_drewN ?_ _ | refine blk_drew ?_ | refine blk_alloc ?_ _)); refine blk_far ?_ NB606_613.out _; (with_reducible repeat (first | refine blk_drewN ?_ _ | refine blk_drew ?_ | refine blk_alloc ?_ _)); refine blk_far ?_ NB606_613.out _; (with_reducible repeat (first | refine blk_drewN ?_ _ | refine blk_drew ?_ | refine blk_alloc ?_ _)); exact BK606.out⟩, ⟨by (with_reducible repeat (first | refine blk_drewN ?_ _ | refine blk_drew ?_ | refine blk_alloc ?_ _)); refine blk_put (cs := #[.int .i64 t610, .int .i64 0]) ?_ 1 _ rfl; (with_reducible repeat (first | refine blk_drewN ?_ _ | refine blk_drew ?_ | refine blk_alloc ?_ _)); refine blk_put (cs := #[.int .i64 0, .int .i64 0]) ?_ 0 _ rfl; (with_reducible repeat (first | refine blk_drewN ?_ _ | refine blk_drew ?_ | refine blk_alloc ?_ _)); exact BK613.out⟩, ⟨by repeat (first | (with_reducible first | exact HB.out | apply below_alloc | apply pw_below_drewN | apply below_drew1 | refine below_set ?_ GE586.out | refine below_set ?_ GE590.out | refine below_set ?_ GE596.out | refine below_set ?_ GE600.out | refine below_set ?_ GE606.out | refine below_set ?_ GE613.out) | exact HB.out)⟩⟩
                  · rw [if_neg c59] at H
                    have c59b0 : (!(t588 == t593) || (!(t589 == t594))) = false := by simpa using c59
                    clear c59
                    have H' := Aside0.mk H
                    clear H
                    have hnb71 := NB590_586.out
                    have hnc71 := NB586_590.out
                    have hnb72 := NB590_596.out
                    have hnc72 := NB596_590.out
                    have hnb73 := NB590_600.out
                    have hnc73 := NB600_590.out
                    have hnb74 := NB590_606.out
                    have hnc74 := NB606_590.out
                    have hnb75 := NB590_613.out
                    have hnc75 := NB613_590.out
                    have hcz76_0 : w50.cell? ⟨gb590, 0, none⟩ = some (.int .i64 t588) := (blk_cell BK590.out 0).trans rfl
                    have hcz76_1 : w50.cell? ⟨gb590, 1, none⟩ = some (.int .i64 t589) := (blk_cell BK590.out 1).trans rfl
                    have hfz76_0 := blk_frozen BK590.out 0
                    have hfz76_1 := blk_frozen BK590.out 1
                    have hnb77 := NB596_586.out
                    have hnc77 := NB586_596.out
                    have hnb78 := NB596_600.out
                    have hnc78 := NB600_596.out
                    have hnb79 := NB596_606.out
                    have hnc79 := NB606_596.out
                    have hnb80 := NB596_613.out
                    have hnc80 := NB613_596.out
                    have hcz81_0 : w50.cell? ⟨gb596, 0, none⟩ = some (.int .i64 t593) := (blk_cell BK596.out 0).trans rfl
                    have hcz81_1 : w50.cell? ⟨gb596, 1, none⟩ = some (.int .i64 t594) := (blk_cell BK596.out 1).trans rfl
                    have hfz81_0 := blk_frozen BK596.out 0
                    have hfz81_1 := blk_frozen BK596.out 1
                    go_wp2
                    go_meet
                    case rel => exact ⟨_, ((t605 != 12)), (by first | rfl | (simp; done) | (simp [*]; done)), H', ⟨by first | omega | exact Nat.le_refl _⟩, ⟨by (with_reducible repeat (first | refine blk_drewN ?_ _ | refine blk_drew ?_ | refine blk_alloc ?_ _)); refine blk_far ?_ NB586_613.out _; (with_reducible repeat (first | refine blk_drewN ?_ _ | refine blk_drew ?_ | refine blk_alloc ?_ _)); refine blk_far ?_ NB586_613.out _; (with_reducible repeat (first | refine blk_drewN ?_ _ | refine blk_drew ?_ | refine blk_alloc ?_ _)); exact BK586.out⟩, ⟨by (with_reducible repeat (first | refine blk_drewN ?_ _ | refine blk_drew ?_ | refine blk_alloc ?_ _)); refine blk_far ?_ NB590_613.out _; (with_reducible repeat (first | refine blk_drewN ?_ _ | refine blk_drew ?_ | refine blk_alloc ?_ _)); refine blk_far ?_ NB590_613.out _; (with_reducible repeat (first | refine blk_drewN ?_ _ | refine blk_drew ?_ | refine blk_alloc ?_ _)); exact BK590.out⟩, ⟨by (with_reducible repeat (first | refine blk_drewN ?_ _ | refine blk_drew ?_ | refine blk_alloc ?_ _)); refine blk_far ?_ NB596_613.out _; (with_reducible repeat (first | refine blk_drewN ?_ _ | refine blk_drew ?_ | refine blk_alloc ?_ _)); refine blk_far ?_ NB596_613.out _; (with_reducible repeat (first | refine blk_drewN ?_ _ | refine blk_drew ?_ | refine blk_alloc ?_ _)); exact BK596.out⟩, ⟨by (with_reducible repeat (first | refine blk_drewN ?_ _ | refine blk_drew ?_ | refine blk_alloc ?_ _)); refine blk_far ?_ NB600_613.out _; (with_reducible repeat (first | refine blk_drewN ?_ _ | refine blk_drew ?_ | refine blk_alloc ?_ _)); refine blk_far ?_ NB600_613.out _; (with_reducible repeat (first | refine blk_drewN ?_ _ | refine blk_drew ?_ | refine blk_alloc ?_ _)); exact BK600.out⟩, ⟨by (with_reducible repeat (first | refine blk_drewN ?_ _ | refine blk_drew ?_ | refine blk_alloc ?_ _)); refine blk_far ?_ NB606_613.out _; (with_reducible repeat (first | refine blk_drewN ?_ _ | refine blk_drew ?_ | refine blk_alloc ?_ _)); refine blk_far ?_ NB606_613.out _; (with_reducible repeat (first | refine blk_drewN ?_ _ | refine blk_drew ?_ | refine blk_alloc ?_ _)); exact BK606.out⟩, ⟨by (with_reducible repeat (first | refine blk_drewN ?_ _ | refine blk_drew ?_ | refine blk_alloc ?_ _)); refine blk_put (cs := #[.int .i64 t610, .int .i64 0]) ?_ 1 _ rfl; (with_reducible repeat (first | refine blk_drewN ?_ _ | refine blk_drew ?_ | refine blk_alloc ?_ _)); refine blk_put (cs := #[.int .i64 0, .int .i64 0]) ?_ 0 _ rfl; (with_reducible repeat (first | refine blk_drewN ?_ _ | refine blk_drew ?_ | refine blk_alloc ?_ _)); exact BK613.out⟩, ⟨by repeat (first | (with_reducible first | exact HB.out | apply below_alloc | apply pw_below_drewN | apply below_drew1 | refine below_set ?_ GE586.out | refine below_set ?_ GE590.out | refine below_set ?_ GE596.out | refine below_set ?_ GE600.out | refine below_set ?_ GE606.out | refine below_set ?_ GE613.out) | exact HB.out)⟩⟩
                · rw [if_neg c58] at H
                  have c58b0 : (t595 == 0) = false := beq_eq_false_iff_ne.mpr c58
                  have c58b1 : (t595 != 0) = true := bne_iff_ne.mpr c58
                  have H' := Aside0.mk H
                  clear H
                  go_wp2
                  go_meet
                  case rel => exact ⟨_, (true), (by first | rfl | (simp; done) | (simp [*]; done)), H', ⟨by first | omega | exact Nat.le_refl _⟩, ⟨by (with_reducible repeat (first | refine blk_drewN ?_ _ | refine blk_drew ?_ | refine blk_alloc ?_ _)); refine blk_far ?_ NB586_613.out _; (with_reducible repeat (first | refine blk_drewN ?_ _ | refine blk_drew ?_ | refine blk_alloc ?_ _)); refine blk_far ?_ NB586_613.out _; (with_reducible repeat (first | refine blk_drewN ?_ _ | refine blk_drew ?_ | refine blk_alloc ?_ _)); exact BK586.out⟩, ⟨by (with_reducible repeat (first | refine blk_drewN ?_ _ | refine blk_drew ?_ | refine blk_alloc ?_ _)); refine blk_far ?_ NB590_613.out _; (with_reducible repeat (first | refine blk_drewN ?_ _ | refine blk_drew ?_ | refine blk_alloc ?_ _)); refine blk_far ?_ NB590_613.out _; (with_reducible repeat (first | refine blk_drewN ?_ _ | refine blk_drew ?_ | refine blk_alloc ?_ _)); exact BK590.out⟩, ⟨by (with_reducible repeat (first | refine blk_drewN ?_ _ | refine blk_drew ?_ | refine blk_alloc ?_ _)); refine blk_far ?_ NB596_613.out _; (with_reducible repeat (first | refine blk_drewN ?_ _ | refine blk_drew ?_ | refine blk_alloc ?_ _)); refine blk_far ?_ NB596_613.out _; (with_reducible repeat (first | refine blk_drewN ?_ _ | refine blk_drew ?_ | refine blk_alloc ?_ _)); exact BK596.out⟩, ⟨by (with_reducible repeat (first | refine blk_drewN ?_ _ | refine blk_drew ?_ | refine blk_alloc ?_ _)); refine blk_far ?_ NB600_613.out _; (with_reducible repeat (first | refine blk_drewN ?_ _ | refine blk_drew ?_ | refine blk_alloc ?_ _)); refine blk_far ?_ NB600_613.out _; (with_reducible repeat (first | refine blk_drewN ?_ _ | refine blk_drew ?_ | refine blk_alloc ?_ _)); exact BK600.out⟩, ⟨by (with_reducible repeat (first | refine blk_drewN ?_ _ | refine blk_drew ?_ | refine blk_alloc ?_ _)); refine blk_far ?_ NB606_613.out _; (with_reducible repeat (first | refine blk_drewN ?_ _ | refine blk_drew ?_ | refine blk_alloc ?_ _)); refine blk_far ?_ NB606_613.out _; (with_reducible repeat (first | refine blk_drewN ?_ _ | refine blk_drew ?_ | refine blk_alloc ?_ _)); exact BK606.out⟩, ⟨by (with_reducible repeat (first | refine blk_drewN ?_ _ | refine blk_drew ?_ | refine blk_alloc ?_ _)); refine blk_put (cs := #[.int .i64 t610, .int .i64 0]) ?_ 1 _ rfl; (with_reducible repeat (first | refine blk_drewN ?_ _ | refine blk_drew ?_ | refine blk_alloc ?_ _)); refine blk_put (cs := #[.int .i64 0, .int .i64 0]) ?_ 0 _ rfl; (with_reducible repeat (first | refine blk_drewN ?_ _ | refine blk_drew ?_ | refine blk_alloc ?_ _)); exact BK613.out⟩, ⟨by repeat (first | (with_reducible first | exact HB.out | apply below_alloc | apply pw_below_drewN | apply below_drew1 | refine below_set ?_ GE586.out | refine below_set ?_ GE590.out | refine below_set ?_ GE596.out | refine below_set ?_ GE600.out | refine below_set ?_ GE606.out | refine below_set ?_ GE613.out) | exact HB.out)⟩⟩
              · rw [if_neg c57] at H
                have c57b0 : (t592 == 0) = false := beq_eq_false_iff_ne.mpr c57
                have c57b1 : (t592 != 0) = true := bne_iff_ne.mpr c57
                (first | rw [c57b0] | (simp only [i64_w, i32_w]; rw [c57b0]) | skip)
                have H' := Aside0.mk H
                clear H
                go_wp2
                go_meet
                case rel => exact ⟨_, (true), (by first | rfl | (simp; done) | (simp [*]; done)), H', ⟨by first | omega | exact Nat.le_refl _⟩, ⟨by (with_reducible repeat (first | refine blk_drewN ?_ _ | refine blk_drew ?_ | refine blk_alloc ?_ _)); refine blk_far ?_ NB586_613.out _; (with_reducible repeat (first | refine blk_drewN ?_ _ | refine blk_drew ?_ | refine blk_alloc ?_ _)); refine blk_far ?_ NB586_613.out _; (with_reducible repeat (first | refine blk_drewN ?_ _ | refine blk_drew ?_ | refine blk_alloc ?_ _)); exact BK586.out⟩, ⟨by (with_reducible repeat (first | refine blk_drewN ?_ _ | refine blk_drew ?_ | refine blk_alloc ?_ _)); refine blk_far ?_ NB590_613.out _; (with_reducible repeat (first | refine blk_drewN ?_ _ | refine blk_drew ?_ | refine blk_alloc ?_ _)); refine blk_far ?_ NB590_613.out _; (with_reducible repeat (first | refine blk_drewN ?_ _ | refine blk_drew ?_ | refine blk_alloc ?_ _)); exact BK590.out⟩, ⟨by (with_reducible repeat (first | refine blk_drewN ?_ _ | refine blk_drew ?_ | refine blk_alloc ?_ _)); refine blk_far ?_ NB596_613.out _; (with_reducible repeat (first | refine blk_drewN ?_ _ | refine blk_drew ?_ | refine blk_alloc ?_ _)); refine blk_far ?_ NB596_613.out _; (with_reducible repeat (first | refine blk_drewN ?_ _ | refine blk_drew ?_ | refine blk_alloc ?_ _)); exact BK596.out⟩, ⟨by (with_reducible repeat (first | refine blk_drewN ?_ _ | refine blk_drew ?_ | refine blk_alloc ?_ _)); refine blk_far ?_ NB600_613.out _; (with_reducible repeat (first | refine blk_drewN ?_ _ | refine blk_drew ?_ | refine blk_alloc ?_ _)); refine blk_far ?_ NB600_613.out _; (with_reducible repeat (first | refine blk_drewN ?_ _ | refine blk_drew ?_ | refine blk_alloc ?_ _)); exact BK600.out⟩, ⟨by (with_reducible repeat (first | refine blk_drewN ?_ _ | refine blk_drew ?_ | refine blk_alloc ?_ _)); refine blk_far ?_ NB606_613.out _; (with_reducible repeat (first | refine blk_drewN ?_ _ | refine blk_drew ?_ | refine blk_alloc ?_ _)); refine blk_far ?_ NB606_613.out _; (with_reducible repeat (first | refine blk_drewN ?_ _ | refine blk_drew ?_ | refine blk_alloc ?_ _)); exact BK606.out⟩, ⟨by (with_reducible repeat (first | refine blk_drewN ?_ _ | refine blk_drew ?_ | refine blk_alloc ?_ _)); refine blk_put (cs := #[.int .i64 t610, .int .i64 0]) ?_ 1 _ rfl; (with_reducible repeat (first | refine blk_drewN ?_ _ | refine blk_drew ?_ | refine blk_alloc ?_ _)); refine blk_put (cs := #[.int .i64 0, .int .i64 0]) ?_ 0 _ rfl; (with_reducible repeat (first | refine blk_drewN ?_ _ | refine blk_drew ?_ | refine blk_alloc ?_ _)); exact BK613.out⟩, ⟨by repeat (first | (with_reducible first | exact HB.out | apply below_alloc | apply pw_below_drewN | apply below_drew1 | refine below_set ?_ GE586.out | refine below_set ?_ GE590.out | refine below_set ?_ GE596.out | refine below_set ?_ GE600.out | refine below_set ?_ GE606.out | refine below_set ?_ GE613.out) | exact HB.out)⟩⟩
            case rest =>
              clear HC18
              try clear c1
              try clear c2
              try clear p2
              try clear c3
              try clear c4
              try clear hcv4
              try clear c5
              try clear c6
              try clear c7
              try clear c8
              try clear c9
              try clear c10
              try clear c10b0
              try clear c10b1
              try clear c11
              try clear c11b0
              try clear c11b1
              try clear c14
              try clear c14b0
              try clear c14b1
              try clear c14b2
              try clear c16
              try clear c16b0
              try clear c16b1
              try clear c16b2
              try clear c17
              try clear c24
              try clear c26
              try clear c29
              try clear c30
              try clear c34
              try clear c35
              try clear c36
              try clear c41
              try clear c42
              try clear c43
              try clear c44
              try clear hcv48
              try clear c51
              try clear c52
              try clear c53
              try clear c54
              try clear c55
              try clear c57
              try clear c57b0
              try clear c57b1
              try clear c58
              try clear c58b0
              try clear c58b1
              try clear c59
              try clear c59b0
              try clear c60
              try clear c61
              try clear c62
              try clear c63
              try clear c64
              try clear c66
              try clear c67
              try clear c68
              try clear c69
              try clear c71
              try clear c72
              try clear c73
              try clear c74
              try clear c75
              try clear c77
              try clear c78
              try clear c79
              try clear c80
              try clear hcz21_0
              try clear hcz21_1
              try clear hcz25_0
              try clear hcz25_1
              try clear hcz31_0
              try clear hcz31_1
              try clear hcz37_0
              try clear hcz37_1
              try clear hcz45_0
              try clear hcz45_1
              try clear hcz56_0
              try clear hcz56_1
              try clear hcz65_0
              try clear hcz65_1
              try clear hcz70_0
              try clear hcz70_1
              try clear hcz76_0
              try clear hcz76_1
              try clear hcz81_0
              try clear hcz81_1
              try clear hfz21_0
              try clear hfz21_1
              try clear hfz25_0
              try clear hfz25_1
              try clear hfz31_0
              try clear hfz31_1
              try clear hfz37_0
              try clear hfz37_1
              try clear hfz45_0
              try clear hfz45_1
              try clear hfz56_0
              try clear hfz56_1
              try clear hfz65_0
              try clear hfz65_1
              try clear hfz70_0
              try clear hfz70_1
              try clear hfz76_0
              try clear hfz76_1
              try clear hfz81_0
              try clear hfz81_1
              obtain ⟨kq, x81_17, rfl, HA, HJ17, BK586, BK590, BK596, BK600, BK606, BK613, HB⟩ := hcut
              cases kq with
              | zero => exact absurd HA.out (by simp [partitalaw01_RatioText.j0])
              | succ kj17 =>
                have H := HA.out
                clear HA
                simp only [partitalaw01_RatioText.j0] at H
                by_cases c82 : x81_17 = true
                · subst c82
                  have H1 : (some false) = some r := by rw [if_pos rfl] at H; exact H
                  clear H
                  have H := H1
                  clear H1
                  exact absurd H (by rw [HR_.out]; simp)
                · replace c82 := Bool.eq_false_iff.mpr c82
                  subst c82
                  have H1 : (if t599 = 0 then (if t602 = 0 then (if t601.toList = (a1.extract 0 ((ji9) : Int).toNat).toList then ((ratio_Right.f kj17 t597 t598).bind fun t614 => (if t614 = true then (if true = true then (if t612 = 12 then (some true) else (if a2 ≥ 48 then (if a2 ≤ 57 then (some (!(t610 == t588) || (!(t611 == t589)))) else (some false)) else (some false))) else (some false)) else (some false))) else (some false)) else (some false)) else (if t599 = 12 then (if (!(t597 == 0) || (!(t598 == 0))) = true then (some false) else (if true = true then (if t612 = 12 then (some true) else (if a2 ≥ 48 then (if a2 ≤ 57 then (some (!(t610 == t588) || (!(t611 == t589)))) else (some false)) else (some false))) else (some false))) else (some false))) = some r := by rw [if_neg (show ¬ (false = true) by decide)] at H; exact H
                  clear H
                  have H := H1
                  clear H1
                  by_cases c83 : t599 = 0
                  · rw [if_pos c83] at H
                    have c83b0 : (t599 == 0) = true := beq_iff_eq.mpr c83
                    have c83b1 : (t599 != 0) = false := bne_eq_false_iff_eq.mpr c83
                    clear c83
                    by_cases c84 : t602 = 0
                    · rw [if_pos c84] at H
                      have c84b0 : (t602 == 0) = true := beq_iff_eq.mpr c84
                      have c84b1 : (t602 != 0) = false := bne_eq_false_iff_eq.mpr c84
                      clear c84
                      by_cases c85 : t601.toList = (a1.extract 0 ((ji9) : Int).toNat).toList
                      · rw [if_pos c85] at H
                        have c85b0 : (t601.toList == (a1.extract 0 ((ji9) : Int).toNat).toList) = true := beq_iff_eq.mpr c85
                        have c85b1 : (t601.toList != (a1.extract 0 ((ji9) : Int).toNat).toList) = false := bne_eq_false_iff_eq.mpr c85
                        clear c85
                        replace H := Option.bind_eq_some_iff.mp H
                        obtain ⟨t614, A860, H⟩ := H
                        replace H : (if t614 = true then (if true = true then (if t612 = 12 then (some true) else (if a2 ≥ 48 then (if a2 ≤ 57 then (some (!(t610 == t588) || (!(t611 == t589)))) else (some false)) else (some false))) else (some false)) else (some false)) = some r := H
                        have A86 := Aside0.mk A860
                        clear A860
                        by_cases c87 : t614 = true
                        · subst c87
                          have H1 : (if true = true then (if t612 = 12 then (some true) else (if a2 ≥ 48 then (if a2 ≤ 57 then (some (!(t610 == t588) || (!(t611 == t589)))) else (some false)) else (some false))) else (some false)) = some r := by rw [if_pos rfl] at H; exact H
                          clear H
                          have H := H1
                          clear H1
                          by_cases c88 : true = true
                          · clear c88
                            have H1 : (if t612 = 12 then (some true) else (if a2 ≥ 48 then (if a2 ≤ 57 then (some (!(t610 == t588) || (!(t611 == t589)))) else (some false)) else (some false))) = some r := by rw [if_pos rfl] at H; exact H
                            clear H
                            have H := H1
                            clear H1
                            by_cases c89 : t612 = 12
                            · rw [if_pos c89] at H
                              have c89b0 : (t612 == 12) = true := beq_iff_eq.mpr c89
                              have c89b1 : (t612 != 12) = false := bne_eq_false_iff_eq.mpr c89
                              clear c89
                              obtain rfl := Option.some.inj H
                              have hnb90 := NB600_586.out
                              have hnc90 := NB586_600.out
                              have hnb91 := NB600_590.out
                              have hnc91 := NB590_600.out
                              have hnb92 := NB600_596.out
                              have hnc92 := NB596_600.out
                              have hnb93 := NB600_606.out
                              have hnc93 := NB606_600.out
                              have hnb94 := NB600_613.out
                              have hnc94 := NB613_600.out
                              have hcz95_0 : wc.cell? ⟨gb600, 0, none⟩ = some (.int .i64 t597) := (blk_cell BK600.out 0).trans rfl
                              have hcz95_1 : wc.cell? ⟨gb600, 1, none⟩ = some (.int .i64 t598) := (blk_cell BK600.out 1).trans rfl
                              have hfz95_0 := blk_frozen BK600.out 0
                              have hfz95_1 := blk_frozen BK600.out 1
                              go_wp2_with (first | (go_at_call 19; (with_reducible refine (ratio_Right.calls kj17 t597 t598 true _ A86.out).mono ?_); rintro e w96 ⟨rfl, hb⟩; have n0_ := Aside0.mk (blk_below (g := gb586) (o := .cells #[.int .i64 a0_0, .int .i64 a0_1] 23 (0, 0)) (by (with_reducible repeat (first | refine blk_drewN ?_ _ | refine blk_drew ?_ | refine blk_alloc ?_ _)); exact BK586.out) hb); have n1_ := Aside0.mk (blk_below (g := gb590) (o := .cells #[.int .i64 t588, .int .i64 t589] 23 (0, 0)) (by (with_reducible repeat (first | refine blk_drewN ?_ _ | refine blk_drew ?_ | refine blk_alloc ?_ _)); exact BK590.out) hb); have n2_ := Aside0.mk (blk_below (g := gb596) (o := .cells #[.int .i64 t593, .int .i64 t594] 23 (0, 0)) (by (with_reducible repeat (first | refine blk_drewN ?_ _ | refine blk_drew ?_ | refine blk_alloc ?_ _)); exact BK596.out) hb); have n3_ := Aside0.mk (blk_below (g := gb600) (o := .cells #[.int .i64 t597, .int .i64 t598] 23 (0, 0)) (by (with_reducible repeat (first | refine blk_drewN ?_ _ | refine blk_drew ?_ | refine blk_alloc ?_ _)); exact BK600.out) hb); have n4_ := Aside0.mk (blk_below (g := gb606) (o := .cells #[.int .i64 t603, .int .i64 t604] 23 (0, 0)) (by (with_reducible repeat (first | refine blk_drewN ?_ _ | refine blk_drew ?_ | refine blk_alloc ?_ _)); exact BK606.out) hb); have n5_ := Aside0.mk (blk_below (g := gb613) (o := .cells #[.int .i64 t610, .int .i64 t611] 23 (0, 0)) (by (with_reducible repeat (first | refine blk_drewN ?_ _ | refine blk_drew ?_ | refine blk_alloc ?_ _)); exact BK613.out) hb); have n6_ := Aside0.mk (below_step (by repeat (first | (with_reducible first | exact HB.out | apply below_alloc | apply pw_below_drewN | apply below_drew1 | refine below_set ?_ GE586.out | refine below_set ?_ GE590.out | refine below_set ?_ GE596.out | refine below_set ?_ GE600.out | refine below_set ?_ GE606.out | refine below_set ?_ GE613.out) | exact HB.out)) hb); clear BK586; clear BK590; clear BK596; clear BK600; clear BK606; clear BK613; clear HB; have BK586 := n0_; have BK590 := n1_; have BK596 := n2_; have BK600 := n3_; have BK606 := n4_; have BK613 := n5_; have HB := n6_; clear n0_ n1_ n2_ n3_ n4_ n5_ n6_; (try clear hb); (try clear hb2); (try clear hk); (try clear hi)))
                              go_ret
                              exact ⟨by first | rfl | (simp [errW_none, errW_some] <;> rfl) | (simp only [← hji9]; first | rfl | (simp [errW_none, errW_some] <;> rfl)) | (simp [*, errW_none, errW_some] <;> rfl), by repeat (first | (with_reducible first | exact HB.out | apply below_alloc | apply pw_below_drewN | apply below_drew1 | refine below_set ?_ GE586.out | refine below_set ?_ GE590.out | refine below_set ?_ GE596.out | refine below_set ?_ GE600.out | refine below_set ?_ GE606.out | refine below_set ?_ GE613.out) | exact HB.out)⟩
                            · rw [if_neg c89] at H
                              have c89b0 : (t612 == 12) = false := beq_eq_false_iff_ne.mpr c89
                              have c89b1 : (t612 != 12) = true := bne_iff_ne.mpr c89
                              by_cases c97 : a2 ≥ 48
                              · rw [if_pos c97] at H
                                have c97b0 : decide (48 ≤ a2) = true := decide_eq_true c97
                                clear c97
                                by_cases c98 : a2 ≤ 57
                                · rw [if_pos c98] at H
                                  have c98b0 : decide (a2 ≤ 57) = true := decide_eq_true c98
                                  clear c98
                                  obtain rfl := Option.some.inj H
                                  have hnb99 := NB600_586.out
                                  have hnc99 := NB586_600.out
                                  have hnb100 := NB600_590.out
                                  have hnc100 := NB590_600.out
                                  have hnb101 := NB600_596.out
                                  have hnc101 := NB596_600.out
                                  have hnb102 := NB600_606.out
                                  have hnc102 := NB606_600.out
                                  have hnb103 := NB600_613.out
                                  have hnc103 := NB613_600.out
                                  have hcz104_0 : wc.cell? ⟨gb600, 0, none⟩ = some (.int .i64 t597) := (blk_cell BK600.out 0).trans rfl
                                  have hcz104_1 : wc.cell? ⟨gb600, 1, none⟩ = some (.int .i64 t598) := (blk_cell BK600.out 1).trans rfl
                                  have hfz104_0 := blk_frozen BK600.out 0
                                  have hfz104_1 := blk_frozen BK600.out 1
                                  go_wp2_with (first | (go_at_call 19; (with_reducible refine (ratio_Right.calls kj17 t597 t598 true _ A86.out).mono ?_); rintro e w105 ⟨rfl, hb⟩; have n0_ := Aside0.mk (blk_below (g := gb586) (o := .cells #[.int .i64 a0_0, .int .i64 a0_1] 23 (0, 0)) (by (with_reducible repeat (first | refine blk_drewN ?_ _ | refine blk_drew ?_ | refine blk_alloc ?_ _)); exact BK586.out) hb); have n1_ := Aside0.mk (blk_below (g := gb590) (o := .cells #[.int .i64 t588, .int .i64 t589] 23 (0, 0)) (by (with_reducible repeat (first | refine blk_drewN ?_ _ | refine blk_drew ?_ | refine blk_alloc ?_ _)); exact BK590.out) hb); have n2_ := Aside0.mk (blk_below (g := gb596) (o := .cells #[.int .i64 t593, .int .i64 t594] 23 (0, 0)) (by (with_reducible repeat (first | refine blk_drewN ?_ _ | refine blk_drew ?_ | refine blk_alloc ?_ _)); exact BK596.out) hb); have n3_ := Aside0.mk (blk_below (g := gb600) (o := .cells #[.int .i64 t597, .int .i64 t598] 23 (0, 0)) (by (with_reducible repeat (first | refine blk_drewN ?_ _ | refine blk_drew ?_ | refine blk_alloc ?_ _)); exact BK600.out) hb); have n4_ := Aside0.mk (blk_below (g := gb606) (o := .cells #[.int .i64 t603, .int .i64 t604] 23 (0, 0)) (by (with_reducible repeat (first | refine blk_drewN ?_ _ | refine blk_drew ?_ | refine blk_alloc ?_ _)); exact BK606.out) hb); have n5_ := Aside0.mk (blk_below (g := gb613) (o := .cells #[.int .i64 t610, .int .i64 t611] 23 (0, 0)) (by (with_reducible repeat (first | refine blk_drewN ?_ _ | refine blk_drew ?_ | refine blk_alloc ?_ _)); exact BK613.out) hb); have n6_ := Aside0.mk (below_step (by repeat (first | (with_reducible first | exact HB.out | apply below_alloc | apply pw_below_drewN | apply below_drew1 | refine below_set ?_ GE586.out | refine below_set ?_ GE590.out | refine below_set ?_ GE596.out | refine below_set ?_ GE600.out | refine below_set ?_ GE606.out | refine below_set ?_ GE613.out) | exact HB.out)) hb); clear BK586; clear BK590; clear BK596; clear BK600; clear BK606; clear BK613; clear HB; have BK586 := n0_; have BK590 := n1_; have BK596 := n2_; have BK600 := n3_; have BK606 := n4_; have BK613 := n5_; have HB := n6_; clear n0_ n1_ n2_ n3_ n4_ n5_ n6_; (try clear hb); (try clear hb2); (try clear hk); (try clear hi); have hnb106 := NB613_586.out; have hnc106 := NB586_613.out; have hnb107 := NB613_590.out; have hnc107 := NB590_613.out; have hnb108 := NB613_596.out; have hnc108 := NB596_613.out; have hnb109 := NB613_606.out; have hnc109 := NB606_613.out; have hcz110_0 : w105.cell? ⟨gb613, 0, none⟩ = some (.int .i64 t610) := (blk_cell BK613.out 0).trans rfl; have hcz110_1 : w105.cell? ⟨gb613, 1, none⟩ = some (.int .i64 t611) := (blk_cell BK613.out 1).trans rfl; have hfz110_0 := blk_frozen BK613.out 0; have hfz110_1 := blk_frozen BK613.out 1; have hnb111 := NB590_586.out; have hnc111 := NB586_590.out; have hnb112 := NB590_596.out; have hnc112 := NB596_590.out; have hnb113 := NB590_606.out; have hnc113 := NB606_590.out; have hcz114_0 : w105.cell? ⟨gb590, 0, none⟩ = some (.int .i64 t588) := (blk_cell BK590.out 0).trans rfl; have hcz114_1 : w105.cell? ⟨gb590, 1, none⟩ = some (.int .i64 t589) := (blk_cell BK590.out 1).trans rfl; have hfz114_0 := blk_frozen BK590.out 0; have hfz114_1 := blk_frozen BK590.out 1))
                                  go_ret
                                  exact ⟨by first | rfl | (simp [errW_none, errW_some] <;> rfl) | (simp only [← hji9]; first | rfl | (simp [errW_none, errW_some] <;> rfl)) | (simp [*, errW_none, errW_some] <;> rfl), by repeat (first | (with_reducible first | exact HB.out | apply below_alloc | apply pw_below_drewN | apply below_drew1 | refine below_set ?_ GE586.out | refine below_set ?_ GE590.out | refine below_set ?_ GE596.out | refine below_set ?_ GE600.out | refine below_set ?_ GE606.out | refine below_set ?_ GE613.out) | exact HB.out)⟩
                                · rw [if_neg c98] at H
                                  have c98b0 : decide (a2 ≤ 57) = false := decide_eq_false c98
                                  clear c98
                                  exact absurd H (by rw [HR_.out]; simp)
                              · rw [if_neg c97] at H
                                have c97b0 : decide (48 ≤ a2) = false := decide_eq_false c97
                                clear c97
                                exact absurd H (by rw [HR_.out]; simp)
                          · exact absurd rfl c88
                        · replace c87 := Bool.eq_false_iff.mpr c87
                          subst c87
                          have H1 : (some false) = some r := by rw [if_neg (show ¬ (false = true) by decide)] at H; exact H
                          clear H
                          have H := H1
                          clear H1
                          exact absurd H (by rw [HR_.out]; simp)
                      · rw [if_neg c85] at H
                        have c85b0 : (t601.toList == (a1.extract 0 ((ji9) : Int).toNat).toList) = false := beq_eq_false_iff_ne.mpr c85
                        have c85b1 : (t601.toList != (a1.extract 0 ((ji9) : Int).toNat).toList) = true := bne_iff_ne.mpr c85
                        exact absurd H (by rw [HR_.out]; simp)
                    · rw [if_neg c84] at H
                      have c84b0 : (t602 == 0) = false := beq_eq_false_iff_ne.mpr c84
                      have c84b1 : (t602 != 0) = true := bne_iff_ne.mpr c84
                      exact absurd H (by rw [HR_.out]; simp)
                  · rw [if_neg c83] at H
                    have c83b0 : (t599 == 0) = false := beq_eq_false_iff_ne.mpr c83
                    have c83b1 : (t599 != 0) = true := bne_iff_ne.mpr c83
                    by_cases c115 : t599 = 12
                    · rw [if_pos c115] at H
                      have c115b0 : (t599 == 12) = true := beq_iff_eq.mpr c115
                      have c115b1 : (t599 != 12) = false := bne_eq_false_iff_eq.mpr c115
                      clear c115
                      by_cases c116 : (!(t597 == 0) || (!(t598 == 0))) = true
                      · rw [if_pos c116] at H
                        have c116b0 : (!(t597 == 0) || (!(t598 == 0))) = true := c116
                        clear c116
                        exact absurd H (by rw [HR_.out]; simp)
                      · rw [if_neg c116] at H
                        have c116b0 : (!(t597 == 0) || (!(t598 == 0))) = false := by simpa using c116
                        clear c116
                        by_cases c117 : true = true
                        · clear c117
                          have H1 : (if t612 = 12 then (some true) else (if a2 ≥ 48 then (if a2 ≤ 57 then (some (!(t610 == t588) || (!(t611 == t589)))) else (some false)) else (some false))) = some r := by rw [if_pos rfl] at H; exact H
                          clear H
                          have H := H1
                          clear H1
                          by_cases c118 : t612 = 12
                          · rw [if_pos c118] at H
                            have c118b0 : (t612 == 12) = true := beq_iff_eq.mpr c118
                            have c118b1 : (t612 != 12) = false := bne_eq_false_iff_eq.mpr c118
                            clear c118
                            obtain rfl := Option.some.inj H
                            have hnb119 := NB600_586.out
                            have hnc119 := NB586_600.out
                            have hnb120 := NB600_590.out
                            have hnc120 := NB590_600.out
                            have hnb121 := NB600_596.out
                            have hnc121 := NB596_600.out
                            have hnb122 := NB600_606.out
                            have hnc122 := NB606_600.out
                            have hnb123 := NB600_613.out
                            have hnc123 := NB613_600.out
                            have hcz124_0 : wc.cell? ⟨gb600, 0, none⟩ = some (.int .i64 t597) := (blk_cell BK600.out 0).trans rfl
                            have hcz124_1 : wc.cell? ⟨gb600, 1, none⟩ = some (.int .i64 t598) := (blk_cell BK600.out 1).trans rfl
                            have hfz124_0 := blk_frozen BK600.out 0
                            have hfz124_1 := blk_frozen BK600.out 1
                            go_wp2
                            go_ret
                            exact ⟨by first | rfl | (simp [errW_none, errW_some] <;> rfl) | (simp only [← hji9]; first | rfl | (simp [errW_none, errW_some] <;> rfl)) | (simp [*, errW_none, errW_some] <;> rfl), by repeat (first | (with_reducible first | exact HB.out | apply below_alloc | apply pw_below_drewN | apply below_drew1 | refine below_set ?_ GE586.out | refine below_set ?_ GE590.out | refine below_set ?_ GE596.out | refine below_set ?_ GE600.out | refine below_set ?_ GE606.out | refine below_set ?_ GE613.out) | exact HB.out)⟩
                          · rw [if_neg c118] at H
                            have c118b0 : (t612 == 12) = false := beq_eq_false_iff_ne.mpr c118
                            have c118b1 : (t612 != 12) = true := bne_iff_ne.mpr c118
                            by_cases c125 : a2 ≥ 48
                            · rw [if_pos c125] at H
                              have c125b0 : decide (48 ≤ a2) = true := decide_eq_true c125
                              clear c125
                              by_cases c126 : a2 ≤ 57
                              · rw [if_pos c126] at H
                                have c126b0 : decide (a2 ≤ 57) = true := decide_eq_true c126
                                clear c126
                                obtain rfl := Option.some.inj H
                                have hnb127 := NB600_586.out
                                have hnc127 := NB586_600.out
                                have hnb128 := NB600_590.out
                                have hnc128 := NB590_600.out
                                have hnb129 := NB600_596.out
                                have hnc129 := NB596_600.out
                                have hnb130 := NB600_606.out
                                have hnc130 := NB606_600.out
                                have hnb131 := NB600_613.out
                                have hnc131 := NB613_600.out
                                have hcz132_0 : wc.cell? ⟨gb600, 0, none⟩ = some (.int .i64 t597) := (blk_cell BK600.out 0).trans rfl
                                have hcz132_1 : wc.cell? ⟨gb600, 1, none⟩ = some (.int .i64 t598) := (blk_cell BK600.out 1).trans rfl
                                have hfz132_0 := blk_frozen BK600.out 0
                                have hfz132_1 := blk_frozen BK600.out 1
                                have hnb133 := NB613_586.out
                                have hnc133 := NB586_613.out
                                have hnb134 := NB613_590.out
                                have hnc134 := NB590_613.out
                                have hnb135 := NB613_596.out
                                have hnc135 := NB596_613.out
                                have hnb136 := NB613_606.out
                                have hnc136 := NB606_613.out
                                have hcz137_0 : wc.cell? ⟨gb613, 0, none⟩ = some (.int .i64 t610) := (blk_cell BK613.out 0).trans rfl
                                have hcz137_1 : wc.cell? ⟨gb613, 1, none⟩ = some (.int .i64 t611) := (blk_cell BK613.out 1).trans rfl
                                have hfz137_0 := blk_frozen BK613.out 0
                                have hfz137_1 := blk_frozen BK613.out 1
                                have hnb138 := NB590_586.out
                                have hnc138 := NB586_590.out
                                have hnb139 := NB590_596.out
                                have hnc139 := NB596_590.out
                                have hnb140 := NB590_606.out
                                have hnc140 := NB606_590.out
                                have hcz141_0 : wc.cell? ⟨gb590, 0, none⟩ = some (.int .i64 t588) := (blk_cell BK590.out 0).trans rfl
                                have hcz141_1 : wc.cell? ⟨gb590, 1, none⟩ = some (.int .i64 t589) := (blk_cell BK590.out 1).trans rfl
                                have hfz141_0 := blk_frozen BK590.out 0
                                have hfz141_1 := blk_frozen BK590.out 1
                                go_wp2
                                go_ret
                                exact ⟨by first | rfl | (simp [errW_none, errW_some] <;> rfl) | (simp only [← hji9]; first | rfl | (simp [errW_none, errW_some] <;> rfl)) | (simp [*, errW_none, errW_some] <;> rfl), by repeat (first | (with_reducible first | exact HB.out | apply below_alloc | apply pw_below_drewN | apply below_drew1 | refine below_set ?_ GE586.out | refine below_set ?_ GE590.out | refine below_set ?_ GE596.out | refine below_set ?_ GE600.out | refine below_set ?_ GE606.out | refine below_set ?_ GE613.out) | exact HB.out)⟩
                              · rw [if_neg c126] at H
                                have c126b0 : decide (a2 ≤ 57) = false := decide_eq_false c126
                                clear c126
                                exact absurd H (by rw [HR_.out]; simp)
                            · rw [if_neg c125] at H
                              have c125b0 : decide (48 ≤ a2) = false := decide_eq_false c125
                              clear c125
                              exact absurd H (by rw [HR_.out]; simp)
                        · exact absurd rfl c117
                    · rw [if_neg c115] at H
                      have c115b0 : (t599 == 12) = false := beq_eq_false_iff_ne.mpr c115
                      have c115b1 : (t599 != 12) = true := bne_iff_ne.mpr c115
                      exact absurd H (by rw [HR_.out]; simp)
          · rw [if_neg c16] at H
            exact absurd H (by simp)
        · rw [if_neg c14] at H
          exact absurd H (by simp)
      · rw [if_neg c11] at H
        exact absurd H (by simp)
    · rw [if_neg c10] at H
      exact absurd H (by simp)
  · replace c5 := Bool.eq_false_iff.mpr c5
    subst c5
    have H1 : (some false) = some r := by rw [if_neg (show ¬ (false = true) by decide)] at H; exact H
    clear H
    have H := H1
    clear H1
    exact absurd H (by rw [HR_.out]; simp)

/-- THE ONE PURE STATEMENT of partitalaw01_RatioText: yours. -/
def partitalaw01_RatioText.Pure : Prop := ∀ (a0_0 : Int) (a0_1 : Int) (a1 : ByteArray) (a2 : Int), (Lit.int .i64 a0_0).wf = true → (Lit.int .i64 a0_1).wf = true → a1.size ≤ 140737488351232 → (Lit.int .u8 a2).wf = true → ∃ k, partitalaw01_RatioText.f k a0_0 a0_1 a1 a2 = some true
theorem partitalaw01_RatioText.walk (P : partitalaw01_RatioText.Pure) (a0_0 : Int) (a0_1 : Int) (a1 : ByteArray) (a2 : Int) (w : World) (hG_ : GW w) (w0_0 : (Lit.int .i64 a0_0).wf = true) (w0_1 : (Lit.int .i64 a0_1).wf = true) (w1 : a1.size ≤ 140737488351232) (w2 : (Lit.int .u8 a2).wf = true) :
    Calls Tryd.prog 9 #[.agg #[.int .i64 a0_0, .int .i64 a0_1], .string a1, .int .u8 a2] w fun e w' => e = .returned (.bool true) ∧ Below w.heap.size w w' := by
  obtain ⟨k, h⟩ := P a0_0 a0_1 a1 a2 w0_0 w0_1 w1 w2
  refine (partitalaw01_RatioText.calls k a0_0 a0_1 a1 a2 true w rfl hG_ h).mono ?_
  rintro e w' ⟨rfl, hd⟩
  exact ⟨rfl, hd⟩

end Go.Proofs.YtofolkbappinhaaDoor.M
