-- Written by wip/mprint.py, this session's own program, over the translation. Lean checks it.
import Derived.Test.YtofolkbappinhaaDoorM0
import Derived.Test.YtofolkbappinhaaDoorM1
import Derived.Test.YtofolkbappinhaaDoorM7
import Derived.Test.YtofolkbappinhaaDoorM8
import Derived.Test.YtofolkbappinhaaDoorM12
import Derived.Test.YtofolkbappinhaaDoorM25
namespace Go.Proofs.YtofolkbappinhaaDoor.M
open Go.RowKit Go.Proofs.YtofolkbappinhaaDoorW.PrintWords Go.Proofs.YtofolkbappinhaaDoorW.PrintLast Go.Proofs.YtofolkbappinhaaDoorW.PrintMore
attribute [local go_sem] max2_int min2_int max_two min_two max_three min_three max_four min_four   -- for this text's walks alone
set_option linter.unusedVariables false
set_option linter.unusedSimpArgs false

attribute [local go_sem high] eqA23
/-! ### partitalaw01_RatioBack: function 6 -/
def partitalaw01_RatioBack.j0 : Nat → Bool → Int → Int → Int → Bool → Int → Int → Int → Int → Int → Int → Int → Int → Option (Bool)
  | 0, _, _, _, _, _, _, _, _, _, _, _, _, _ => none
  | k + 1, x5, x13, x15, x19, x82, x508000, x508001, x511000, x511001, x527000, x527001, x535000, x535001 => if x82 = true then (some false) else (if x511000 = 0 then (if x5 = true then (if x19 = 11 then (some (x535000 == 0 && (x535001 == 0))) else (some false)) else (some false)) else (if x5 = true then (if x13 = 0 then (if x15 = 0 then (if (x527000 == x508000 && (x527001 == x508001)) = true then (if x19 = 0 then (some (x535000 == 1 && (x535001 == 1))) else (some false)) else (some false)) else (some false)) else (if x19 = 0 then (some (x535000 == 1 && (x535001 == 1))) else (some false))) else (some false)))
def partitalaw01_RatioBack.f (k : Nat) (a0_0 : Int) (a0_1 : Int) (a1_0 : Int) (a1_1 : Int) : Option (Bool) := (partitalaw01_examples.f k).bind fun t504 => (if t504 = true then ((partitalaw01_Ratio.f k a0_0 a0_1).bind fun bt505 => ((partitalaw01_Ratio.f k a1_0 a1_1).bind fun bt508 => ((ratio_Add.f k bt505.1 bt505.2 bt508.1 bt508.2).bind fun bt511 => ((ratio_Sub.f k bt511.1 bt511.2.1 bt508.1 bt508.2).bind fun bt515 => ((ratio_Mul.f k bt505.1 bt505.2 bt508.1 bt508.2).bind fun bt519 => ((ratio_Div.f k bt519.1 bt519.2.1 bt508.1 bt508.2).bind fun bt523 => ((ratio_Sub.f k bt505.1 bt505.2 bt505.1 bt505.2).bind fun bt527 => ((ratio_Div.f k bt508.1 bt508.2 bt508.1 bt508.2).bind fun bt531 => (if bt511.2.2 = 0 then (if bt515.2.2 = 0 then (if (!(bt515.1 == bt505.1) || (!(bt515.2.1 == bt505.2))) = true then (partitalaw01_RatioBack.j0 k t504 bt519.2.2 bt523.2.2 bt531.2.2 true bt505.1 bt505.2 bt508.1 bt508.2 bt523.1 bt523.2.1 bt531.1 bt531.2.1) else (if bt527.2.2 = 0 then (partitalaw01_RatioBack.j0 k t504 bt519.2.2 bt523.2.2 bt531.2.2 (!(bt527.1 == 0) || (!(bt527.2.1 == 1))) bt505.1 bt505.2 bt508.1 bt508.2 bt523.1 bt523.2.1 bt531.1 bt531.2.1) else (partitalaw01_RatioBack.j0 k t504 bt519.2.2 bt523.2.2 bt531.2.2 true bt505.1 bt505.2 bt508.1 bt508.2 bt523.1 bt523.2.1 bt531.1 bt531.2.1))) else (partitalaw01_RatioBack.j0 k t504 bt519.2.2 bt523.2.2 bt531.2.2 true bt505.1 bt505.2 bt508.1 bt508.2 bt523.1 bt523.2.1 bt531.1 bt531.2.1)) else (if bt527.2.2 = 0 then (partitalaw01_RatioBack.j0 k t504 bt519.2.2 bt523.2.2 bt531.2.2 (!(bt527.1 == 0) || (!(bt527.2.1 == 1))) bt505.1 bt505.2 bt508.1 bt508.2 bt523.1 bt523.2.1 bt531.1 bt531.2.1) else (partitalaw01_RatioBack.j0 k t504 bt519.2.2 bt523.2.2 bt531.2.2 true bt505.1 bt505.2 bt508.1 bt508.2 bt523.1 bt523.2.1 bt531.1 bt531.2.1))))))))))) else (some false))
theorem partitalaw01_RatioBack.mono_l : ∀ k, (∀ y0 y1 y2 y3 y4 y5 y6 y7 y8 y9 y10 y11 y12, LeO (partitalaw01_RatioBack.j0 k y0 y1 y2 y3 y4 y5 y6 y7 y8 y9 y10 y11 y12) (partitalaw01_RatioBack.j0 (k + 1) y0 y1 y2 y3 y4 y5 y6 y7 y8 y9 y10 y11 y12))
  | 0 => fun _ _ _ _ _ _ _ _ _ _ _ _ _ r h => by simp [partitalaw01_RatioBack.j0] at h
  | k + 1 => by
    have ih0 := partitalaw01_RatioBack.mono_l k
    · intro y0 y1 y2 y3 y4 y5 y6 y7 y8 y9 y10 y11 y12
      unfold partitalaw01_RatioBack.j0
      repeat' first
      | (with_reducible exact ih0 _ _ _ _ _ _ _ _ _ _ _ _ _)
      | (with_reducible exact partitalaw01_Ratio.mono _ _ _)
      | (with_reducible exact partitalaw01_examples.mono _)
      | (with_reducible exact ratio_Add.mono _ _ _ _ _)
      | (with_reducible exact ratio_Div.mono _ _ _ _ _)
      | (with_reducible exact ratio_Mul.mono _ _ _ _ _)
      | (with_reducible exact ratio_Sub.mono _ _ _ _ _)
      | (with_reducible exact LeO.refl _)
      | (with_reducible exact LeO.none _)
      | (with_reducible refine LeO.ite ?_ ?_)
      | (with_reducible refine LeO.bind ?_ (fun _ => ?_))
      | exact ih0 _ _ _ _ _ _ _ _ _ _ _ _ _
      | exact partitalaw01_Ratio.mono _ _ _
      | exact partitalaw01_examples.mono _
      | exact ratio_Add.mono _ _ _ _ _
      | exact ratio_Div.mono _ _ _ _ _
      | exact ratio_Mul.mono _ _ _ _ _
      | exact ratio_Sub.mono _ _ _ _ _
      | exact LeO.none _
      | refine LeO.ite ?_ ?_
      | refine LeO.bind ?_ (fun _ => ?_)
theorem partitalaw01_RatioBack.mono : ∀ a0 a1 a2 a3 k, LeO (partitalaw01_RatioBack.f k a0 a1 a2 a3) (partitalaw01_RatioBack.f (k + 1) a0 a1 a2 a3) := by
  intro a0 a1 a2 a3 k
  have ih0 := partitalaw01_RatioBack.mono_l k
  unfold partitalaw01_RatioBack.f
  repeat' first
      | (with_reducible exact ih0 _ _ _ _ _ _ _ _ _ _ _ _ _)
      | (with_reducible exact partitalaw01_Ratio.mono _ _ _)
      | (with_reducible exact partitalaw01_examples.mono _)
      | (with_reducible exact ratio_Add.mono _ _ _ _ _)
      | (with_reducible exact ratio_Div.mono _ _ _ _ _)
      | (with_reducible exact ratio_Mul.mono _ _ _ _ _)
      | (with_reducible exact ratio_Sub.mono _ _ _ _ _)
      | (with_reducible exact LeO.refl _)
      | (with_reducible exact LeO.none _)
      | (with_reducible refine LeO.ite ?_ ?_)
      | (with_reducible refine LeO.bind ?_ (fun _ => ?_))
      | exact ih0 _ _ _ _ _ _ _ _ _ _ _ _ _
      | exact partitalaw01_Ratio.mono _ _ _
      | exact partitalaw01_examples.mono _
      | exact ratio_Add.mono _ _ _ _ _
      | exact ratio_Div.mono _ _ _ _ _
      | exact ratio_Mul.mono _ _ _ _ _
      | exact ratio_Sub.mono _ _ _ _ _
      | exact LeO.none _
      | refine LeO.ite ?_ ?_
      | refine LeO.bind ?_ (fun _ => ?_)
set_option maxHeartbeats 8000000 in
set_option maxRecDepth 100000 in
theorem partitalaw01_RatioBack.calls (k : Nat) (a0_0 : Int) (a0_1 : Int) (a1_0 : Int) (a1_1 : Int) (r : Bool) (w : World) (hr_ : r = true) (hG_ : GW w) (h : partitalaw01_RatioBack.f k a0_0 a0_1 a1_0 a1_1 = some r) :
    Calls Tryd.prog 6 #[.agg #[.int .i64 a0_0, .int .i64 a0_1], .agg #[.int .i64 a1_0, .int .i64 a1_1]] w fun e w' => e = .returned (.bool r) ∧ Below w.heap.size w w' := by
  have hu23 := Tryd.underlying23
  have HB := Aside0.mk (Below.refl w.heap.size w)
  have HR_ := Aside0.mk hr_
  clear hr_
  have HG_ := Aside0.mk hG_
  clear hG_
  have H : ((partitalaw01_examples.f k).bind fun t504 => (if t504 = true then ((partitalaw01_Ratio.f k a0_0 a0_1).bind fun bt505 => ((partitalaw01_Ratio.f k a1_0 a1_1).bind fun bt508 => ((ratio_Add.f k bt505.1 bt505.2 bt508.1 bt508.2).bind fun bt511 => ((ratio_Sub.f k bt511.1 bt511.2.1 bt508.1 bt508.2).bind fun bt515 => ((ratio_Mul.f k bt505.1 bt505.2 bt508.1 bt508.2).bind fun bt519 => ((ratio_Div.f k bt519.1 bt519.2.1 bt508.1 bt508.2).bind fun bt523 => ((ratio_Sub.f k bt505.1 bt505.2 bt505.1 bt505.2).bind fun bt527 => ((ratio_Div.f k bt508.1 bt508.2 bt508.1 bt508.2).bind fun bt531 => (if bt511.2.2 = 0 then (if bt515.2.2 = 0 then (if (!(bt515.1 == bt505.1) || (!(bt515.2.1 == bt505.2))) = true then (partitalaw01_RatioBack.j0 k t504 bt519.2.2 bt523.2.2 bt531.2.2 true bt505.1 bt505.2 bt508.1 bt508.2 bt523.1 bt523.2.1 bt531.1 bt531.2.1) else (if bt527.2.2 = 0 then (partitalaw01_RatioBack.j0 k t504 bt519.2.2 bt523.2.2 bt531.2.2 (!(bt527.1 == 0) || (!(bt527.2.1 == 1))) bt505.1 bt505.2 bt508.1 bt508.2 bt523.1 bt523.2.1 bt531.1 bt531.2.1) else (partitalaw01_RatioBack.j0 k t504 bt519.2.2 bt523.2.2 bt531.2.2 true bt505.1 bt505.2 bt508.1 bt508.2 bt523.1 bt523.2.1 bt531.1 bt531.2.1))) else (partitalaw01_RatioBack.j0 k t504 bt519.2.2 bt523.2.2 bt531.2.2 true bt505.1 bt505.2 bt508.1 bt508.2 bt523.1 bt523.2.1 bt531.1 bt531.2.1)) else (if bt527.2.2 = 0 then (partitalaw01_RatioBack.j0 k t504 bt519.2.2 bt523.2.2 bt531.2.2 (!(bt527.1 == 0) || (!(bt527.2.1 == 1))) bt505.1 bt505.2 bt508.1 bt508.2 bt523.1 bt523.2.1 bt531.1 bt531.2.1) else (partitalaw01_RatioBack.j0 k t504 bt519.2.2 bt523.2.2 bt531.2.2 true bt505.1 bt505.2 bt508.1 bt508.2 bt523.1 bt523.2.1 bt531.1 bt531.2.1))))))))))) else (some false))) = some r := h
  clear h
  replace H := Option.bind_eq_some_iff.mp H
  obtain ⟨t504, A30, H⟩ := H
  replace H : (if t504 = true then ((partitalaw01_Ratio.f k a0_0 a0_1).bind fun bt505 => ((partitalaw01_Ratio.f k a1_0 a1_1).bind fun bt508 => ((ratio_Add.f k bt505.1 bt505.2 bt508.1 bt508.2).bind fun bt511 => ((ratio_Sub.f k bt511.1 bt511.2.1 bt508.1 bt508.2).bind fun bt515 => ((ratio_Mul.f k bt505.1 bt505.2 bt508.1 bt508.2).bind fun bt519 => ((ratio_Div.f k bt519.1 bt519.2.1 bt508.1 bt508.2).bind fun bt523 => ((ratio_Sub.f k bt505.1 bt505.2 bt505.1 bt505.2).bind fun bt527 => ((ratio_Div.f k bt508.1 bt508.2 bt508.1 bt508.2).bind fun bt531 => (if bt511.2.2 = 0 then (if bt515.2.2 = 0 then (if (!(bt515.1 == bt505.1) || (!(bt515.2.1 == bt505.2))) = true then (partitalaw01_RatioBack.j0 k t504 bt519.2.2 bt523.2.2 bt531.2.2 true bt505.1 bt505.2 bt508.1 bt508.2 bt523.1 bt523.2.1 bt531.1 bt531.2.1) else (if bt527.2.2 = 0 then (partitalaw01_RatioBack.j0 k t504 bt519.2.2 bt523.2.2 bt531.2.2 (!(bt527.1 == 0) || (!(bt527.2.1 == 1))) bt505.1 bt505.2 bt508.1 bt508.2 bt523.1 bt523.2.1 bt531.1 bt531.2.1) else (partitalaw01_RatioBack.j0 k t504 bt519.2.2 bt523.2.2 bt531.2.2 true bt505.1 bt505.2 bt508.1 bt508.2 bt523.1 bt523.2.1 bt531.1 bt531.2.1))) else (partitalaw01_RatioBack.j0 k t504 bt519.2.2 bt523.2.2 bt531.2.2 true bt505.1 bt505.2 bt508.1 bt508.2 bt523.1 bt523.2.1 bt531.1 bt531.2.1)) else (if bt527.2.2 = 0 then (partitalaw01_RatioBack.j0 k t504 bt519.2.2 bt523.2.2 bt531.2.2 (!(bt527.1 == 0) || (!(bt527.2.1 == 1))) bt505.1 bt505.2 bt508.1 bt508.2 bt523.1 bt523.2.1 bt531.1 bt531.2.1) else (partitalaw01_RatioBack.j0 k t504 bt519.2.2 bt523.2.2 bt531.2.2 true bt505.1 bt505.2 bt508.1 bt508.2 bt523.1 bt523.2.1 bt531.1 bt531.2.1))))))))))) else (some false)) = some r := H
  have A3 := Aside0.mk A30
  clear A30
  by_cases c4 : t504 = true
  · subst c4
    have H1 : ((partitalaw01_Ratio.f k a0_0 a0_1).bind fun bt505 => ((partitalaw01_Ratio.f k a1_0 a1_1).bind fun bt508 => ((ratio_Add.f k bt505.1 bt505.2 bt508.1 bt508.2).bind fun bt511 => ((ratio_Sub.f k bt511.1 bt511.2.1 bt508.1 bt508.2).bind fun bt515 => ((ratio_Mul.f k bt505.1 bt505.2 bt508.1 bt508.2).bind fun bt519 => ((ratio_Div.f k bt519.1 bt519.2.1 bt508.1 bt508.2).bind fun bt523 => ((ratio_Sub.f k bt505.1 bt505.2 bt505.1 bt505.2).bind fun bt527 => ((ratio_Div.f k bt508.1 bt508.2 bt508.1 bt508.2).bind fun bt531 => (if bt511.2.2 = 0 then (if bt515.2.2 = 0 then (if (!(bt515.1 == bt505.1) || (!(bt515.2.1 == bt505.2))) = true then (partitalaw01_RatioBack.j0 k true bt519.2.2 bt523.2.2 bt531.2.2 true bt505.1 bt505.2 bt508.1 bt508.2 bt523.1 bt523.2.1 bt531.1 bt531.2.1) else (if bt527.2.2 = 0 then (partitalaw01_RatioBack.j0 k true bt519.2.2 bt523.2.2 bt531.2.2 (!(bt527.1 == 0) || (!(bt527.2.1 == 1))) bt505.1 bt505.2 bt508.1 bt508.2 bt523.1 bt523.2.1 bt531.1 bt531.2.1) else (partitalaw01_RatioBack.j0 k true bt519.2.2 bt523.2.2 bt531.2.2 true bt505.1 bt505.2 bt508.1 bt508.2 bt523.1 bt523.2.1 bt531.1 bt531.2.1))) else (partitalaw01_RatioBack.j0 k true bt519.2.2 bt523.2.2 bt531.2.2 true bt505.1 bt505.2 bt508.1 bt508.2 bt523.1 bt523.2.1 bt531.1 bt531.2.1)) else (if bt527.2.2 = 0 then (partitalaw01_RatioBack.j0 k true bt519.2.2 bt523.2.2 bt531.2.2 (!(bt527.1 == 0) || (!(bt527.2.1 == 1))) bt505.1 bt505.2 bt508.1 bt508.2 bt523.1 bt523.2.1 bt531.1 bt531.2.1) else (partitalaw01_RatioBack.j0 k true bt519.2.2 bt523.2.2 bt531.2.2 true bt505.1 bt505.2 bt508.1 bt508.2 bt523.1 bt523.2.1 bt531.1 bt531.2.1))))))))))) = some r := by rw [if_pos rfl] at H; exact H
    clear H
    have H := H1
    clear H1
    replace H := Option.bind_eq_some_iff.mp H
    obtain ⟨⟨t505, t506⟩, A50, H⟩ := H
    replace H : ((partitalaw01_Ratio.f k a1_0 a1_1).bind fun bt508 => ((ratio_Add.f k t505 t506 bt508.1 bt508.2).bind fun bt511 => ((ratio_Sub.f k bt511.1 bt511.2.1 bt508.1 bt508.2).bind fun bt515 => ((ratio_Mul.f k t505 t506 bt508.1 bt508.2).bind fun bt519 => ((ratio_Div.f k bt519.1 bt519.2.1 bt508.1 bt508.2).bind fun bt523 => ((ratio_Sub.f k t505 t506 t505 t506).bind fun bt527 => ((ratio_Div.f k bt508.1 bt508.2 bt508.1 bt508.2).bind fun bt531 => (if bt511.2.2 = 0 then (if bt515.2.2 = 0 then (if (!(bt515.1 == t505) || (!(bt515.2.1 == t506))) = true then (partitalaw01_RatioBack.j0 k true bt519.2.2 bt523.2.2 bt531.2.2 true t505 t506 bt508.1 bt508.2 bt523.1 bt523.2.1 bt531.1 bt531.2.1) else (if bt527.2.2 = 0 then (partitalaw01_RatioBack.j0 k true bt519.2.2 bt523.2.2 bt531.2.2 (!(bt527.1 == 0) || (!(bt527.2.1 == 1))) t505 t506 bt508.1 bt508.2 bt523.1 bt523.2.1 bt531.1 bt531.2.1) else (partitalaw01_RatioBack.j0 k true bt519.2.2 bt523.2.2 bt531.2.2 true t505 t506 bt508.1 bt508.2 bt523.1 bt523.2.1 bt531.1 bt531.2.1))) else (partitalaw01_RatioBack.j0 k true bt519.2.2 bt523.2.2 bt531.2.2 true t505 t506 bt508.1 bt508.2 bt523.1 bt523.2.1 bt531.1 bt531.2.1)) else (if bt527.2.2 = 0 then (partitalaw01_RatioBack.j0 k true bt519.2.2 bt523.2.2 bt531.2.2 (!(bt527.1 == 0) || (!(bt527.2.1 == 1))) t505 t506 bt508.1 bt508.2 bt523.1 bt523.2.1 bt531.1 bt531.2.1) else (partitalaw01_RatioBack.j0 k true bt519.2.2 bt523.2.2 bt531.2.2 true t505 t506 bt508.1 bt508.2 bt523.1 bt523.2.1 bt531.1 bt531.2.1)))))))))) = some r := H
    have A5 := Aside0.mk A50
    clear A50
    replace H := Option.bind_eq_some_iff.mp H
    obtain ⟨⟨t508, t509⟩, A60, H⟩ := H
    replace H : ((ratio_Add.f k t505 t506 t508 t509).bind fun bt511 => ((ratio_Sub.f k bt511.1 bt511.2.1 t508 t509).bind fun bt515 => ((ratio_Mul.f k t505 t506 t508 t509).bind fun bt519 => ((ratio_Div.f k bt519.1 bt519.2.1 t508 t509).bind fun bt523 => ((ratio_Sub.f k t505 t506 t505 t506).bind fun bt527 => ((ratio_Div.f k t508 t509 t508 t509).bind fun bt531 => (if bt511.2.2 = 0 then (if bt515.2.2 = 0 then (if (!(bt515.1 == t505) || (!(bt515.2.1 == t506))) = true then (partitalaw01_RatioBack.j0 k true bt519.2.2 bt523.2.2 bt531.2.2 true t505 t506 t508 t509 bt523.1 bt523.2.1 bt531.1 bt531.2.1) else (if bt527.2.2 = 0 then (partitalaw01_RatioBack.j0 k true bt519.2.2 bt523.2.2 bt531.2.2 (!(bt527.1 == 0) || (!(bt527.2.1 == 1))) t505 t506 t508 t509 bt523.1 bt523.2.1 bt531.1 bt531.2.1) else (partitalaw01_RatioBack.j0 k true bt519.2.2 bt523.2.2 bt531.2.2 true t505 t506 t508 t509 bt523.1 bt523.2.1 bt531.1 bt531.2.1))) else (partitalaw01_RatioBack.j0 k true bt519.2.2 bt523.2.2 bt531.2.2 true t505 t506 t508 t509 bt523.1 bt523.2.1 bt531.1 bt531.2.1)) else (if bt527.2.2 = 0 then (partitalaw01_RatioBack.j0 k true bt519.2.2 bt523.2.2 bt531.2.2 (!(bt527.1 == 0) || (!(bt527.2.1 == 1))) t505 t506 t508 t509 bt523.1 bt523.2.1 bt531.1 bt531.2.1) else (partitalaw01_RatioBack.j0 k true bt519.2.2 bt523.2.2 bt531.2.2 true t505 t506 t508 t509 bt523.1 bt523.2.1 bt531.1 bt531.2.1))))))))) = some r := H
    have A6 := Aside0.mk A60
    clear A60
    replace H := Option.bind_eq_some_iff.mp H
    obtain ⟨⟨t511, t512, t513⟩, A70, H⟩ := H
    replace H : ((ratio_Sub.f k t511 t512 t508 t509).bind fun bt515 => ((ratio_Mul.f k t505 t506 t508 t509).bind fun bt519 => ((ratio_Div.f k bt519.1 bt519.2.1 t508 t509).bind fun bt523 => ((ratio_Sub.f k t505 t506 t505 t506).bind fun bt527 => ((ratio_Div.f k t508 t509 t508 t509).bind fun bt531 => (if t513 = 0 then (if bt515.2.2 = 0 then (if (!(bt515.1 == t505) || (!(bt515.2.1 == t506))) = true then (partitalaw01_RatioBack.j0 k true bt519.2.2 bt523.2.2 bt531.2.2 true t505 t506 t508 t509 bt523.1 bt523.2.1 bt531.1 bt531.2.1) else (if bt527.2.2 = 0 then (partitalaw01_RatioBack.j0 k true bt519.2.2 bt523.2.2 bt531.2.2 (!(bt527.1 == 0) || (!(bt527.2.1 == 1))) t505 t506 t508 t509 bt523.1 bt523.2.1 bt531.1 bt531.2.1) else (partitalaw01_RatioBack.j0 k true bt519.2.2 bt523.2.2 bt531.2.2 true t505 t506 t508 t509 bt523.1 bt523.2.1 bt531.1 bt531.2.1))) else (partitalaw01_RatioBack.j0 k true bt519.2.2 bt523.2.2 bt531.2.2 true t505 t506 t508 t509 bt523.1 bt523.2.1 bt531.1 bt531.2.1)) else (if bt527.2.2 = 0 then (partitalaw01_RatioBack.j0 k true bt519.2.2 bt523.2.2 bt531.2.2 (!(bt527.1 == 0) || (!(bt527.2.1 == 1))) t505 t506 t508 t509 bt523.1 bt523.2.1 bt531.1 bt531.2.1) else (partitalaw01_RatioBack.j0 k true bt519.2.2 bt523.2.2 bt531.2.2 true t505 t506 t508 t509 bt523.1 bt523.2.1 bt531.1 bt531.2.1)))))))) = some r := H
    have A7 := Aside0.mk A70
    clear A70
    replace H := Option.bind_eq_some_iff.mp H
    obtain ⟨⟨t515, t516, t517⟩, A80, H⟩ := H
    replace H : ((ratio_Mul.f k t505 t506 t508 t509).bind fun bt519 => ((ratio_Div.f k bt519.1 bt519.2.1 t508 t509).bind fun bt523 => ((ratio_Sub.f k t505 t506 t505 t506).bind fun bt527 => ((ratio_Div.f k t508 t509 t508 t509).bind fun bt531 => (if t513 = 0 then (if t517 = 0 then (if (!(t515 == t505) || (!(t516 == t506))) = true then (partitalaw01_RatioBack.j0 k true bt519.2.2 bt523.2.2 bt531.2.2 true t505 t506 t508 t509 bt523.1 bt523.2.1 bt531.1 bt531.2.1) else (if bt527.2.2 = 0 then (partitalaw01_RatioBack.j0 k true bt519.2.2 bt523.2.2 bt531.2.2 (!(bt527.1 == 0) || (!(bt527.2.1 == 1))) t505 t506 t508 t509 bt523.1 bt523.2.1 bt531.1 bt531.2.1) else (partitalaw01_RatioBack.j0 k true bt519.2.2 bt523.2.2 bt531.2.2 true t505 t506 t508 t509 bt523.1 bt523.2.1 bt531.1 bt531.2.1))) else (partitalaw01_RatioBack.j0 k true bt519.2.2 bt523.2.2 bt531.2.2 true t505 t506 t508 t509 bt523.1 bt523.2.1 bt531.1 bt531.2.1)) else (if bt527.2.2 = 0 then (partitalaw01_RatioBack.j0 k true bt519.2.2 bt523.2.2 bt531.2.2 (!(bt527.1 == 0) || (!(bt527.2.1 == 1))) t505 t506 t508 t509 bt523.1 bt523.2.1 bt531.1 bt531.2.1) else (partitalaw01_RatioBack.j0 k true bt519.2.2 bt523.2.2 bt531.2.2 true t505 t506 t508 t509 bt523.1 bt523.2.1 bt531.1 bt531.2.1))))))) = some r := H
    have A8 := Aside0.mk A80
    clear A80
    replace H := Option.bind_eq_some_iff.mp H
    obtain ⟨⟨t519, t520, t521⟩, A90, H⟩ := H
    replace H : ((ratio_Div.f k t519 t520 t508 t509).bind fun bt523 => ((ratio_Sub.f k t505 t506 t505 t506).bind fun bt527 => ((ratio_Div.f k t508 t509 t508 t509).bind fun bt531 => (if t513 = 0 then (if t517 = 0 then (if (!(t515 == t505) || (!(t516 == t506))) = true then (partitalaw01_RatioBack.j0 k true t521 bt523.2.2 bt531.2.2 true t505 t506 t508 t509 bt523.1 bt523.2.1 bt531.1 bt531.2.1) else (if bt527.2.2 = 0 then (partitalaw01_RatioBack.j0 k true t521 bt523.2.2 bt531.2.2 (!(bt527.1 == 0) || (!(bt527.2.1 == 1))) t505 t506 t508 t509 bt523.1 bt523.2.1 bt531.1 bt531.2.1) else (partitalaw01_RatioBack.j0 k true t521 bt523.2.2 bt531.2.2 true t505 t506 t508 t509 bt523.1 bt523.2.1 bt531.1 bt531.2.1))) else (partitalaw01_RatioBack.j0 k true t521 bt523.2.2 bt531.2.2 true t505 t506 t508 t509 bt523.1 bt523.2.1 bt531.1 bt531.2.1)) else (if bt527.2.2 = 0 then (partitalaw01_RatioBack.j0 k true t521 bt523.2.2 bt531.2.2 (!(bt527.1 == 0) || (!(bt527.2.1 == 1))) t505 t506 t508 t509 bt523.1 bt523.2.1 bt531.1 bt531.2.1) else (partitalaw01_RatioBack.j0 k true t521 bt523.2.2 bt531.2.2 true t505 t506 t508 t509 bt523.1 bt523.2.1 bt531.1 bt531.2.1)))))) = some r := H
    have A9 := Aside0.mk A90
    clear A90
    replace H := Option.bind_eq_some_iff.mp H
    obtain ⟨⟨t523, t524, t525⟩, A100, H⟩ := H
    replace H : ((ratio_Sub.f k t505 t506 t505 t506).bind fun bt527 => ((ratio_Div.f k t508 t509 t508 t509).bind fun bt531 => (if t513 = 0 then (if t517 = 0 then (if (!(t515 == t505) || (!(t516 == t506))) = true then (partitalaw01_RatioBack.j0 k true t521 t525 bt531.2.2 true t505 t506 t508 t509 t523 t524 bt531.1 bt531.2.1) else (if bt527.2.2 = 0 then (partitalaw01_RatioBack.j0 k true t521 t525 bt531.2.2 (!(bt527.1 == 0) || (!(bt527.2.1 == 1))) t505 t506 t508 t509 t523 t524 bt531.1 bt531.2.1) else (partitalaw01_RatioBack.j0 k true t521 t525 bt531.2.2 true t505 t506 t508 t509 t523 t524 bt531.1 bt531.2.1))) else (partitalaw01_RatioBack.j0 k true t521 t525 bt531.2.2 true t505 t506 t508 t509 t523 t524 bt531.1 bt531.2.1)) else (if bt527.2.2 = 0 then (partitalaw01_RatioBack.j0 k true t521 t525 bt531.2.2 (!(bt527.1 == 0) || (!(bt527.2.1 == 1))) t505 t506 t508 t509 t523 t524 bt531.1 bt531.2.1) else (partitalaw01_RatioBack.j0 k true t521 t525 bt531.2.2 true t505 t506 t508 t509 t523 t524 bt531.1 bt531.2.1))))) = some r := H
    have A10 := Aside0.mk A100
    clear A100
    replace H := Option.bind_eq_some_iff.mp H
    obtain ⟨⟨t527, t528, t529⟩, A110, H⟩ := H
    replace H : ((ratio_Div.f k t508 t509 t508 t509).bind fun bt531 => (if t513 = 0 then (if t517 = 0 then (if (!(t515 == t505) || (!(t516 == t506))) = true then (partitalaw01_RatioBack.j0 k true t521 t525 bt531.2.2 true t505 t506 t508 t509 t523 t524 bt531.1 bt531.2.1) else (if t529 = 0 then (partitalaw01_RatioBack.j0 k true t521 t525 bt531.2.2 (!(t527 == 0) || (!(t528 == 1))) t505 t506 t508 t509 t523 t524 bt531.1 bt531.2.1) else (partitalaw01_RatioBack.j0 k true t521 t525 bt531.2.2 true t505 t506 t508 t509 t523 t524 bt531.1 bt531.2.1))) else (partitalaw01_RatioBack.j0 k true t521 t525 bt531.2.2 true t505 t506 t508 t509 t523 t524 bt531.1 bt531.2.1)) else (if t529 = 0 then (partitalaw01_RatioBack.j0 k true t521 t525 bt531.2.2 (!(t527 == 0) || (!(t528 == 1))) t505 t506 t508 t509 t523 t524 bt531.1 bt531.2.1) else (partitalaw01_RatioBack.j0 k true t521 t525 bt531.2.2 true t505 t506 t508 t509 t523 t524 bt531.1 bt531.2.1)))) = some r := H
    have A11 := Aside0.mk A110
    clear A110
    replace H := Option.bind_eq_some_iff.mp H
    obtain ⟨⟨t531, t532, t533⟩, A120, H⟩ := H
    replace H : (if t513 = 0 then (if t517 = 0 then (if (!(t515 == t505) || (!(t516 == t506))) = true then (partitalaw01_RatioBack.j0 k true t521 t525 t533 true t505 t506 t508 t509 t523 t524 t531 t532) else (if t529 = 0 then (partitalaw01_RatioBack.j0 k true t521 t525 t533 (!(t527 == 0) || (!(t528 == 1))) t505 t506 t508 t509 t523 t524 t531 t532) else (partitalaw01_RatioBack.j0 k true t521 t525 t533 true t505 t506 t508 t509 t523 t524 t531 t532))) else (partitalaw01_RatioBack.j0 k true t521 t525 t533 true t505 t506 t508 t509 t523 t524 t531 t532)) else (if t529 = 0 then (partitalaw01_RatioBack.j0 k true t521 t525 t533 (!(t527 == 0) || (!(t528 == 1))) t505 t506 t508 t509 t523 t524 t531 t532) else (partitalaw01_RatioBack.j0 k true t521 t525 t533 true t505 t506 t508 t509 t523 t524 t531 t532))) = some r := H
    have A12 := Aside0.mk A120
    clear A120
    have HC13 := Aside0.mk H
    clear H
    go_enter Tryd.func6, Tryd.ntmps6
    go_upto_region 12 with (first | ((with_reducible refine gate_dst (N := 2) rfl ?_); refine box_event ?hg (N := 2) ?hd (cs := #[.int .i64 a0_0, .int .i64 a0_1]) (t := 23) ?hr ?_; (case hd => rfl); (case hg => rfl); (case hr => first | (go_simp; done) | (go_simp; rfl)); intro gb502 hg w14 hbox hb; have n0_ := Aside0.mk (below_step (by repeat (first | (with_reducible first | exact HB.out | apply below_alloc | apply pw_below_drewN | apply below_drew1) | exact HB.out)) hb); have n1_ := Aside0.mk (hbox); have n2_ := Aside0.mk ((by rw [hg]; exact (below_size (by repeat (first | (with_reducible first | exact HB.out | apply below_alloc | apply pw_below_drewN | apply below_drew1) | exact HB.out))) : w.heap.size ≤ gb502)); have n3_ := n2_; clear HB; have HB := n0_; have BK502 := n1_; have GW502 := n2_; have GE502 := n3_; clear n0_ n1_ n2_ n3_; clear hb hbox hg) | ((with_reducible refine gate_dst (N := 3) rfl ?_); refine box_event ?hg (N := 3) ?hd (cs := #[.int .i64 a1_0, .int .i64 a1_1]) (t := 23) ?hr ?_; (case hd => rfl); (case hg => rfl); (case hr => first | (go_simp; done) | (go_simp; rfl)); intro gb503 hg w15 hbox hb; have n0_ := Aside0.mk (blk_below (g := gb502) (o := .cells #[.int .i64 a0_0, .int .i64 a0_1] 23 (0, 0)) (by (with_reducible repeat (first | refine blk_drewN ?_ _ | refine blk_drew ?_ | refine blk_alloc ?_ _)); exact BK502.out) hb); have n1_ := Aside0.mk (below_step (by repeat (first | (with_reducible first | exact HB.out | apply below_alloc | apply pw_below_drewN | apply below_drew1 | refine below_set ?_ GE502.out) | exact HB.out)) hb); have n2_ := Aside0.mk (hbox); have n3_ := Aside0.mk ((by rw [hg]; exact (below_size (by repeat (first | (with_reducible first | exact HB.out | apply below_alloc | apply pw_below_drewN | apply below_drew1 | refine below_set ?_ GE502.out) | exact HB.out))) : w.heap.size ≤ gb503)); have n4_ := n3_; have n5_ := Aside0.mk ((by rw [hg]; exact Nat.ne_of_lt (blk_lt (g := gb502) (o := .cells #[.int .i64 a0_0, .int .i64 a0_1] 23 (0, 0)) (by (with_reducible repeat (first | refine blk_drewN ?_ _ | refine blk_drew ?_ | refine blk_alloc ?_ _)); exact BK502.out)) : gb502 ≠ gb503)); have n6_ := Aside0.mk n5_.out.symm; clear BK502; clear HB; have BK502 := n0_; have HB := n1_; have BK503 := n2_; have GW503 := n3_; have GE503 := n4_; have NB502_503 := n5_; have NB503_502 := n6_; clear n0_ n1_ n2_ n3_ n4_ n5_ n6_; clear hb hbox hg) | ((with_reducible refine gate_callee (f := 11) rfl ?_); refine goesL_ (some 20) rfl rfl Tryd.func11 (by kernel_rfl) rfl #[] rfl (by (try simp only [List.map_toArray, List.map_cons, List.map_nil]); first | done | rfl) ?_; (with_reducible refine (partitalaw01_examples.calls k  true _ ?side1 A3.out).mono ?_); (case side1 => exact GW.step HG_.out (by repeat (first | (with_reducible first | exact HB.out | apply below_alloc | apply pw_below_drewN | apply below_drew1 | refine below_set ?_ GE502.out | refine below_set ?_ GE503.out) | exact HB.out))); rintro e w16 ⟨rfl, hb⟩; refine ⟨_, rfl, ?_⟩; have n0_ := Aside0.mk (blk_below (g := gb502) (o := .cells #[.int .i64 a0_0, .int .i64 a0_1] 23 (0, 0)) (by (with_reducible repeat (first | refine blk_drewN ?_ _ | refine blk_drew ?_ | refine blk_alloc ?_ _)); exact BK502.out) hb); have n1_ := Aside0.mk (blk_below (g := gb503) (o := .cells #[.int .i64 a1_0, .int .i64 a1_1] 23 (0, 0)) (by (with_reducible repeat (first | refine blk_drewN ?_ _ | refine blk_drew ?_ | refine blk_alloc ?_ _)); exact BK503.out) hb); have n2_ := Aside0.mk (below_step (by repeat (first | (with_reducible first | exact HB.out | apply below_alloc | apply pw_below_drewN | apply below_drew1 | refine below_set ?_ GE502.out | refine below_set ?_ GE503.out) | exact HB.out)) hb); clear BK502; clear BK503; clear HB; have BK502 := n0_; have BK503 := n1_; have HB := n2_; clear n0_ n1_ n2_; (try clear hb); (try clear hb2); (try clear hk); (try clear hi); have hnb17 := NB502_503.out; have hnc17 := NB503_502.out; have hcz18_0 : w16.cell? ⟨gb502, 0, none⟩ = some (.int .i64 a0_0) := (blk_cell BK502.out 0).trans rfl; have hcz18_1 : w16.cell? ⟨gb502, 1, none⟩ = some (.int .i64 a0_1) := (blk_cell BK502.out 1).trans rfl; have hfz18_0 := blk_frozen BK502.out 0; have hfz18_1 := blk_frozen BK502.out 1) | ((with_reducible refine gate_callee (f := 17) rfl ?_); refine goesL_ (some 24) rfl rfl Tryd.func17 (by kernel_rfl) rfl #[.agg #[.int .i64 a0_0, .int .i64 a0_1]] rfl (by (try simp only [List.map_toArray, List.map_cons, List.map_nil]); first | done | rfl) ?_; (with_reducible refine (partitalaw01_Ratio.calls k a0_0 a0_1 t505 t506 _ A5.out).mono ?_); rintro e w19 ⟨rfl, hb⟩; refine ⟨_, rfl, ?_⟩; have n0_ := Aside0.mk (blk_below (g := gb502) (o := .cells #[.int .i64 a0_0, .int .i64 a0_1] 23 (0, 0)) (by (with_reducible repeat (first | refine blk_drewN ?_ _ | refine blk_drew ?_ | refine blk_alloc ?_ _)); exact BK502.out) hb); have n1_ := Aside0.mk (blk_below (g := gb503) (o := .cells #[.int .i64 a1_0, .int .i64 a1_1] 23 (0, 0)) (by (with_reducible repeat (first | refine blk_drewN ?_ _ | refine blk_drew ?_ | refine blk_alloc ?_ _)); exact BK503.out) hb); have n2_ := Aside0.mk (below_step (by repeat (first | (with_reducible first | exact HB.out | apply below_alloc | apply pw_below_drewN | apply below_drew1 | refine below_set ?_ GE502.out | refine below_set ?_ GE503.out) | exact HB.out)) hb); clear BK502; clear BK503; clear HB; have BK502 := n0_; have BK503 := n1_; have HB := n2_; clear n0_ n1_ n2_; (try clear hb); (try clear hb2); (try clear hk); (try clear hi)) | ((with_reducible refine gate_dst (N := 6) rfl ?_); refine box_event ?hg (N := 6) ?hd (cs := #[.int .i64 0, .int .i64 0]) (t := 23) ?hr ?_; (case hd => rfl); (case hg => rfl); (case hr => first | (go_simp; done) | (go_simp; rfl)); intro gb507 hg w20 hbox hb; have n0_ := Aside0.mk (blk_below (g := gb502) (o := .cells #[.int .i64 a0_0, .int .i64 a0_1] 23 (0, 0)) (by (with_reducible repeat (first | refine blk_drewN ?_ _ | refine blk_drew ?_ | refine blk_alloc ?_ _)); exact BK502.out) hb); have n1_ := Aside0.mk (blk_below (g := gb503) (o := .cells #[.int .i64 a1_0, .int .i64 a1_1] 23 (0, 0)) (by (with_reducible repeat (first | refine blk_drewN ?_ _ | refine blk_drew ?_ | refine blk_alloc ?_ _)); exact BK503.out) hb); have n2_ := Aside0.mk (below_step (by repeat (first | (with_reducible first | exact HB.out | apply below_alloc | apply pw_below_drewN | apply below_drew1 | refine below_set ?_ GE502.out | refine below_set ?_ GE503.out) | exact HB.out)) hb); have n3_ := Aside0.mk (hbox); have n4_ := Aside0.mk ((by rw [hg]; exact (below_size (by repeat (first | (with_reducible first | exact HB.out | apply below_alloc | apply pw_below_drewN | apply below_drew1 | refine below_set ?_ GE502.out | refine below_set ?_ GE503.out) | exact HB.out))) : w.heap.size ≤ gb507)); have n5_ := n4_; have n6_ := Aside0.mk ((by rw [hg]; exact Nat.ne_of_lt (blk_lt (g := gb502) (o := .cells #[.int .i64 a0_0, .int .i64 a0_1] 23 (0, 0)) (by (with_reducible repeat (first | refine blk_drewN ?_ _ | refine blk_drew ?_ | refine blk_alloc ?_ _)); exact BK502.out)) : gb502 ≠ gb507)); have n7_ := Aside0.mk n6_.out.symm; have n8_ := Aside0.mk ((by rw [hg]; exact Nat.ne_of_lt (blk_lt (g := gb503) (o := .cells #[.int .i64 a1_0, .int .i64 a1_1] 23 (0, 0)) (by (with_reducible repeat (first | refine blk_drewN ?_ _ | refine blk_drew ?_ | refine blk_alloc ?_ _)); exact BK503.out)) : gb503 ≠ gb507)); have n9_ := Aside0.mk n8_.out.symm; clear BK502; clear BK503; clear HB; have BK502 := n0_; have BK503 := n1_; have HB := n2_; have BK507 := n3_; have GW507 := n4_; have GE507 := n5_; have NB502_507 := n6_; have NB507_502 := n7_; have NB503_507 := n8_; have NB507_503 := n9_; clear n0_ n1_ n2_ n3_ n4_ n5_ n6_ n7_ n8_ n9_; clear hb hbox hg; have hnb21 := NB507_502.out; have hnc21 := NB502_507.out; have hnb22 := NB507_503.out; have hnc22 := NB503_507.out; have hcz23_0 : w20.cell? ⟨gb507, 0, none⟩ = some (.int .i64 0) := (blk_cell BK507.out 0).trans rfl; have hcz23_1 : w20.cell? ⟨gb507, 1, none⟩ = some (.int .i64 0) := (blk_cell BK507.out 1).trans rfl; have hfz23_0 := blk_frozen BK507.out 0; have hfz23_1 := blk_frozen BK507.out 1; have hcz24_0 : w20.cell? ⟨gb503, 0, none⟩ = some (.int .i64 a1_0) := (blk_cell BK503.out 0).trans rfl; have hcz24_1 : w20.cell? ⟨gb503, 1, none⟩ = some (.int .i64 a1_1) := (blk_cell BK503.out 1).trans rfl; have hfz24_0 := blk_frozen BK503.out 0; have hfz24_1 := blk_frozen BK503.out 1) | ((with_reducible refine gate_callee (f := 17) rfl ?_); refine goesL_ (some 26) rfl rfl Tryd.func17 (by kernel_rfl) rfl #[.agg #[.int .i64 a1_0, .int .i64 a1_1]] rfl (by (try simp only [List.map_toArray, List.map_cons, List.map_nil]); first | done | rfl) ?_; (with_reducible refine (partitalaw01_Ratio.calls k a1_0 a1_1 t508 t509 _ A6.out).mono ?_); rintro e w25 ⟨rfl, hb⟩; refine ⟨_, rfl, ?_⟩; have n0_ := Aside0.mk (blk_below (g := gb502) (o := .cells #[.int .i64 a0_0, .int .i64 a0_1] 23 (0, 0)) (by (with_reducible repeat (first | refine blk_drewN ?_ _ | refine blk_drew ?_ | refine blk_alloc ?_ _)); refine blk_far ?_ NB502_507.out _; (with_reducible repeat (first | refine blk_drewN ?_ _ | refine blk_drew ?_ | refine blk_alloc ?_ _)); refine blk_far ?_ NB502_507.out _; (with_reducible repeat (first | refine blk_drewN ?_ _ | refine blk_drew ?_ | refine blk_alloc ?_ _)); exact BK502.out) hb); have n1_ := Aside0.mk (blk_below (g := gb503) (o := .cells #[.int .i64 a1_0, .int .i64 a1_1] 23 (0, 0)) (by (with_reducible repeat (first | refine blk_drewN ?_ _ | refine blk_drew ?_ | refine blk_alloc ?_ _)); refine blk_far ?_ NB503_507.out _; (with_reducible repeat (first | refine blk_drewN ?_ _ | refine blk_drew ?_ | refine blk_alloc ?_ _)); refine blk_far ?_ NB503_507.out _; (with_reducible repeat (first | refine blk_drewN ?_ _ | refine blk_drew ?_ | refine blk_alloc ?_ _)); exact BK503.out) hb); have n2_ := Aside0.mk (blk_below (g := gb507) (o := .cells #[.int .i64 t505, .int .i64 t506] 23 (0, 0)) (by (with_reducible repeat (first | refine blk_drewN ?_ _ | refine blk_drew ?_ | refine blk_alloc ?_ _)); refine blk_put (cs := #[.int .i64 t505, .int .i64 0]) ?_ 1 _ rfl; (with_reducible repeat (first | refine blk_drewN ?_ _ | refine blk_drew ?_ | refine blk_alloc ?_ _)); refine blk_put (cs := #[.int .i64 0, .int .i64 0]) ?_ 0 _ rfl; (with_reducible repeat (first | refine blk_drewN ?_ _ | refine blk_drew ?_ | refine blk_alloc ?_ _)); exact BK507.out) hb); have n3_ := Aside0.mk (below_step (by repeat (first | (with_reducible first | exact HB.out | apply below_alloc | apply pw_below_drewN | apply below_drew1 | refine below_set ?_ GE502.out | refine below_set ?_ GE503.out | refine below_set ?_ GE507.out) | exact HB.out)) hb); clear BK502; clear BK503; clear BK507; clear HB; have BK502 := n0_; have BK503 := n1_; have BK507 := n2_; have HB := n3_; clear n0_ n1_ n2_ n3_; (try clear hb); (try clear hb2); (try clear hk); (try clear hi)) | ((with_reducible refine gate_dst (N := 7) rfl ?_); refine box_event ?hg (N := 7) ?hd (cs := #[.int .i64 0, .int .i64 0]) (t := 23) ?hr ?_; (case hd => rfl); (case hg => rfl); (case hr => first | (go_simp; done) | (go_simp; rfl)); intro gb510 hg w26 hbox hb; have n0_ := Aside0.mk (blk_below (g := gb502) (o := .cells #[.int .i64 a0_0, .int .i64 a0_1] 23 (0, 0)) (by (with_reducible repeat (first | refine blk_drewN ?_ _ | refine blk_drew ?_ | refine blk_alloc ?_ _)); exact BK502.out) hb); have n1_ := Aside0.mk (blk_below (g := gb503) (o := .cells #[.int .i64 a1_0, .int .i64 a1_1] 23 (0, 0)) (by (with_reducible repeat (first | refine blk_drewN ?_ _ | refine blk_drew ?_ | refine blk_alloc ?_ _)); exact BK503.out) hb); have n2_ := Aside0.mk (blk_below (g := gb507) (o := .cells #[.int .i64 t505, .int .i64 t506] 23 (0, 0)) (by (with_reducible repeat (first | refine blk_drewN ?_ _ | refine blk_drew ?_ | refine blk_alloc ?_ _)); exact BK507.out) hb); have n3_ := Aside0.mk (below_step (by repeat (first | (with_reducible first | exact HB.out | apply below_alloc | apply pw_below_drewN | apply below_drew1 | refine below_set ?_ GE502.out | refine below_set ?_ GE503.out | refine below_set ?_ GE507.out) | exact HB.out)) hb); have n4_ := Aside0.mk (hbox); have n5_ := Aside0.mk ((by rw [hg]; exact (below_size (by repeat (first | (with_reducible first | exact HB.out | apply below_alloc | apply pw_below_drewN | apply below_drew1 | refine below_set ?_ GE502.out | refine below_set ?_ GE503.out | refine below_set ?_ GE507.out) | exact HB.out))) : w.heap.size ≤ gb510)); have n6_ := n5_; have n7_ := Aside0.mk ((by rw [hg]; exact Nat.ne_of_lt (blk_lt (g := gb502) (o := .cells #[.int .i64 a0_0, .int .i64 a0_1] 23 (0, 0)) (by (with_reducible repeat (first | refine blk_drewN ?_ _ | refine blk_drew ?_ | refine blk_alloc ?_ _)); exact BK502.out)) : gb502 ≠ gb510)); have n8_ := Aside0.mk n7_.out.symm; have n9_ := Aside0.mk ((by rw [hg]; exact Nat.ne_of_lt (blk_lt (g := gb503) (o := .cells #[.int .i64 a1_0, .int .i64 a1_1] 23 (0, 0)) (by (with_reducible repeat (first | refine blk_drewN ?_ _ | refine blk_drew ?_ | refine blk_alloc ?_ _)); exact BK503.out)) : gb503 ≠ gb510)); have n10_ := Aside0.mk n9_.out.symm; have n11_ := Aside0.mk ((by rw [hg]; exact Nat.ne_of_lt (blk_lt (g := gb507) (o := .cells #[.int .i64 t505, .int .i64 t506] 23 (0, 0)) (by (with_reducible repeat (first | refine blk_drewN ?_ _ | refine blk_drew ?_ | refine blk_alloc ?_ _)); exact BK507.out)) : gb507 ≠ gb510)); have n12_ := Aside0.mk n11_.out.symm; clear BK502; clear BK503; clear BK507; clear HB; have BK502 := n0_; have BK503 := n1_; have BK507 := n2_; have HB := n3_; have BK510 := n4_; have GW510 := n5_; have GE510 := n6_; have NB502_510 := n7_; have NB510_502 := n8_; have NB503_510 := n9_; have NB510_503 := n10_; have NB507_510 := n11_; have NB510_507 := n12_; clear n0_ n1_ n2_ n3_ n4_ n5_ n6_ n7_ n8_ n9_ n10_ n11_ n12_; clear hb hbox hg; have hnb27 := NB510_502.out; have hnc27 := NB502_510.out; have hnb28 := NB510_503.out; have hnc28 := NB503_510.out; have hnb29 := NB510_507.out; have hnc29 := NB507_510.out; have hcz30_0 : w26.cell? ⟨gb510, 0, none⟩ = some (.int .i64 0) := (blk_cell BK510.out 0).trans rfl; have hcz30_1 : w26.cell? ⟨gb510, 1, none⟩ = some (.int .i64 0) := (blk_cell BK510.out 1).trans rfl; have hfz30_0 := blk_frozen BK510.out 0; have hfz30_1 := blk_frozen BK510.out 1; have hcz31_0 : w26.cell? ⟨gb507, 0, none⟩ = some (.int .i64 t505) := (blk_cell BK507.out 0).trans rfl; have hcz31_1 : w26.cell? ⟨gb507, 1, none⟩ = some (.int .i64 t506) := (blk_cell BK507.out 1).trans rfl; have hfz31_0 := blk_frozen BK507.out 0; have hfz31_1 := blk_frozen BK507.out 1) | ((with_reducible refine gate_callee (f := 20) rfl ?_); refine goesL_ (some 30) rfl rfl Tryd.func20 (by kernel_rfl) rfl #[.agg #[.int .i64 t505, .int .i64 t506], .agg #[.int .i64 t508, .int .i64 t509]] rfl (by (try simp only [List.map_toArray, List.map_cons, List.map_nil]); first | done | rfl) ?_; (with_reducible refine (ratio_Add.calls k t505 t506 t508 t509 t511 t512 t513 _ A7.out).mono ?_); rintro e w32 ⟨rfl, hb⟩; refine ⟨_, rfl, ?_⟩; have n0_ := Aside0.mk (blk_below (g := gb502) (o := .cells #[.int .i64 a0_0, .int .i64 a0_1] 23 (0, 0)) (by (with_reducible repeat (first | refine blk_drewN ?_ _ | refine blk_drew ?_ | refine blk_alloc ?_ _)); refine blk_far ?_ NB502_510.out _; (with_reducible repeat (first | refine blk_drewN ?_ _ | refine blk_drew ?_ | refine blk_alloc ?_ _)); refine blk_far ?_ NB502_510.out _; (with_reducible repeat (first | refine blk_drewN ?_ _ | refine blk_drew ?_ | refine blk_alloc ?_ _)); exact BK502.out) hb); have n1_ := Aside0.mk (blk_below (g := gb503) (o := .cells #[.int .i64 a1_0, .int .i64 a1_1] 23 (0, 0)) (by (with_reducible repeat (first | refine blk_drewN ?_ _ | refine blk_drew ?_ | refine blk_alloc ?_ _)); refine blk_far ?_ NB503_510.out _; (with_reducible repeat (first | refine blk_drewN ?_ _ | refine blk_drew ?_ | refine blk_alloc ?_ _)); refine blk_far ?_ NB503_510.out _; (with_reducible repeat (first | refine blk_drewN ?_ _ | refine blk_drew ?_ | refine blk_alloc ?_ _)); exact BK503.out) hb); have n2_ := Aside0.mk (blk_below (g := gb507) (o := .cells #[.int .i64 t505, .int .i64 t506] 23 (0, 0)) (by (with_reducible repeat (first | refine blk_drewN ?_ _ | refine blk_drew ?_ | refine blk_alloc ?_ _)); refine blk_far ?_ NB507_510.out _; (with_reducible repeat (first | refine blk_drewN ?_ _ | refine blk_drew ?_ | refine blk_alloc ?_ _)); refine blk_far ?_ NB507_510.out _; (with_reducible repeat (first | refine blk_drewN ?_ _ | refine blk_drew ?_ | refine blk_alloc ?_ _)); exact BK507.out) hb); have n3_ := Aside0.mk (blk_below (g := gb510) (o := .cells #[.int .i64 t508, .int .i64 t509] 23 (0, 0)) (by (with_reducible repeat (first | refine blk_drewN ?_ _ | refine blk_drew ?_ | refine blk_alloc ?_ _)); refine blk_put (cs := #[.int .i64 t508, .int .i64 0]) ?_ 1 _ rfl; (with_reducible repeat (first | refine blk_drewN ?_ _ | refine blk_drew ?_ | refine blk_alloc ?_ _)); refine blk_put (cs := #[.int .i64 0, .int .i64 0]) ?_ 0 _ rfl; (with_reducible repeat (first | refine blk_drewN ?_ _ | refine blk_drew ?_ | refine blk_alloc ?_ _)); exact BK510.out) hb); have n4_ := Aside0.mk (below_step (by repeat (first | (with_reducible first | exact HB.out | apply below_alloc | apply pw_below_drewN | apply below_drew1 | refine below_set ?_ GE502.out | refine below_set ?_ GE503.out | refine below_set ?_ GE507.out | refine below_set ?_ GE510.out) | exact HB.out)) hb); clear BK502; clear BK503; clear BK507; clear BK510; clear HB; have BK502 := n0_; have BK503 := n1_; have BK507 := n2_; have BK510 := n3_; have HB := n4_; clear n0_ n1_ n2_ n3_ n4_; (try clear hb); (try clear hb2); (try clear hk); (try clear hi)) | ((with_reducible refine gate_dst (N := 8) rfl ?_); refine box_event ?hg (N := 8) ?hd (cs := #[.int .i64 0, .int .i64 0]) (t := 23) ?hr ?_; (case hd => rfl); (case hg => rfl); (case hr => first | (go_simp; done) | (go_simp; rfl)); intro gb514 hg w33 hbox hb; have n0_ := Aside0.mk (blk_below (g := gb502) (o := .cells #[.int .i64 a0_0, .int .i64 a0_1] 23 (0, 0)) (by (with_reducible repeat (first | refine blk_drewN ?_ _ | refine blk_drew ?_ | refine blk_alloc ?_ _)); exact BK502.out) hb); have n1_ := Aside0.mk (blk_below (g := gb503) (o := .cells #[.int .i64 a1_0, .int .i64 a1_1] 23 (0, 0)) (by (with_reducible repeat (first | refine blk_drewN ?_ _ | refine blk_drew ?_ | refine blk_alloc ?_ _)); exact BK503.out) hb); have n2_ := Aside0.mk (blk_below (g := gb507) (o := .cells #[.int .i64 t505, .int .i64 t506] 23 (0, 0)) (by (with_reducible repeat (first | refine blk_drewN ?_ _ | refine blk_drew ?_ | refine blk_alloc ?_ _)); exact BK507.out) hb); have n3_ := Aside0.mk (blk_below (g := gb510) (o := .cells #[.int .i64 t508, .int .i64 t509] 23 (0, 0)) (by (with_reducible repeat (first | refine blk_drewN ?_ _ | refine blk_drew ?_ | refine blk_alloc ?_ _)); exact BK510.out) hb); have n4_ := Aside0.mk (below_step (by repeat (first | (with_reducible first | exact HB.out | apply below_alloc | apply pw_below_drewN | apply below_drew1 | refine below_set ?_ GE502.out | refine below_set ?_ GE503.out | refine below_set ?_ GE507.out | refine below_set ?_ GE510.out) | exact HB.out)) hb); have n5_ := Aside0.mk (hbox); have n6_ := Aside0.mk ((by rw [hg]; exact (below_size (by repeat (first | (with_reducible first | exact HB.out | apply below_alloc | apply pw_below_drewN | apply below_drew1 | refine below_set ?_ GE502.out | refine below_set ?_ GE503.out | refine below_set ?_ GE507.out | refine below_set ?_ GE510.out) | exact HB.out))) : w.heap.size ≤ gb514)); have n7_ := n6_; have n8_ := Aside0.mk ((by rw [hg]; exact Nat.ne_of_lt (blk_lt (g := gb502) (o := .cells #[.int .i64 a0_0, .int .i64 a0_1] 23 (0, 0)) (by (with_reducible repeat (first | refine blk_drewN ?_ _ | refine blk_drew ?_ | refine blk_alloc ?_ _)); exact BK502.out)) : gb502 ≠ gb514)); have n9_ := Aside0.mk n8_.out.symm; have n10_ := Aside0.mk ((by rw [hg]; exact Nat.ne_of_lt (blk_lt (g := gb503) (o := .cells #[.int .i64 a1_0, .int .i64 a1_1] 23 (0, 0)) (by (with_reducible repeat (first | refine blk_drewN ?_ _ | refine blk_drew ?_ | refine blk_alloc ?_ _)); exact BK503.out)) : gb503 ≠ gb514)); have n11_ := Aside0.mk n10_.out.symm; have n12_ := Aside0.mk ((by rw [hg]; exact Nat.ne_of_lt (blk_lt (g := gb507) (o := .cells #[.int .i64 t505, .int .i64 t506] 23 (0, 0)) (by (with_reducible repeat (first | refine blk_drewN ?_ _ | refine blk_drew ?_ | refine blk_alloc ?_ _)); exact BK507.out)) : gb507 ≠ gb514)); have n13_ := Aside0.mk n12_.out.symm; have n14_ := Aside0.mk ((by rw [hg]; exact Nat.ne_of_lt (blk_lt (g := gb510) (o := .cells #[.int .i64 t508, .int .i64 t509] 23 (0, 0)) (by (with_reducible repeat (first | refine blk_drewN ?_ _ | refine blk_drew ?_ | refine blk_alloc ?_ _)); exact BK510.out)) : gb510 ≠ gb514)); have n15_ := Aside0.mk n14_.out.symm; clear BK502; clear BK503; clear BK507; clear BK510; clear HB; have BK502 := n0_; have BK503 := n1_; have BK507 := n2_; have BK510 := n3_; have HB := n4_; have BK514 := n5_; have GW514 := n6_; have GE514 := n7_; have NB502_514 := n8_; have NB514_502 := n9_; have NB503_514 := n10_; have NB514_503 := n11_; have NB507_514 := n12_; have NB514_507 := n13_; have NB510_514 := n14_; have NB514_510 := n15_; clear n0_ n1_ n2_ n3_ n4_ n5_ n6_ n7_ n8_ n9_ n10_ n11_ n12_ n13_ n14_ n15_; clear hb hbox hg; have hnb34 := NB514_502.out; have hnc34 := NB502_514.out; have hnb35 := NB514_503.out; have hnc35 := NB503_514.out; have hnb36 := NB514_507.out; have hnc36 := NB507_514.out; have hnb37 := NB514_510.out; have hnc37 := NB510_514.out; have hcz38_0 : w33.cell? ⟨gb514, 0, none⟩ = some (.int .i64 0) := (blk_cell BK514.out 0).trans rfl; have hcz38_1 : w33.cell? ⟨gb514, 1, none⟩ = some (.int .i64 0) := (blk_cell BK514.out 1).trans rfl; have hfz38_0 := blk_frozen BK514.out 0; have hfz38_1 := blk_frozen BK514.out 1; have hcz39_0 : w33.cell? ⟨gb510, 0, none⟩ = some (.int .i64 t508) := (blk_cell BK510.out 0).trans rfl; have hcz39_1 : w33.cell? ⟨gb510, 1, none⟩ = some (.int .i64 t509) := (blk_cell BK510.out 1).trans rfl; have hfz39_0 := blk_frozen BK510.out 0; have hfz39_1 := blk_frozen BK510.out 1) | ((with_reducible refine gate_callee (f := 22) rfl ?_); refine goesL_ (some 36) rfl rfl Tryd.func22 (by kernel_rfl) rfl #[.agg #[.int .i64 t511, .int .i64 t512], .agg #[.int .i64 t508, .int .i64 t509]] rfl (by (try simp only [List.map_toArray, List.map_cons, List.map_nil]); first | done | rfl) ?_; (with_reducible refine (ratio_Sub.calls k t511 t512 t508 t509 t515 t516 t517 _ A8.out).mono ?_); rintro e w40 ⟨rfl, hb⟩; refine ⟨_, rfl, ?_⟩; have n0_ := Aside0.mk (blk_below (g := gb502) (o := .cells #[.int .i64 a0_0, .int .i64 a0_1] 23 (0, 0)) (by (with_reducible repeat (first | refine blk_drewN ?_ _ | refine blk_drew ?_ | refine blk_alloc ?_ _)); refine blk_far ?_ NB502_514.out _; (with_reducible repeat (first | refine blk_drewN ?_ _ | refine blk_drew ?_ | refine blk_alloc ?_ _)); refine blk_far ?_ NB502_514.out _; (with_reducible repeat (first | refine blk_drewN ?_ _ | refine blk_drew ?_ | refine blk_alloc ?_ _)); exact BK502.out) hb); have n1_ := Aside0.mk (blk_below (g := gb503) (o := .cells #[.int .i64 a1_0, .int .i64 a1_1] 23 (0, 0)) (by (with_reducible repeat (first | refine blk_drewN ?_ _ | refine blk_drew ?_ | refine blk_alloc ?_ _)); refine blk_far ?_ NB503_514.out _; (with_reducible repeat (first | refine blk_drewN ?_ _ | refine blk_drew ?_ | refine blk_alloc ?_ _)); refine blk_far ?_ NB503_514.out _; (with_reducible repeat (first | refine blk_drewN ?_ _ | refine blk_drew ?_ | refine blk_alloc ?_ _)); exact BK503.out) hb); have n2_ := Aside0.mk (blk_below (g := gb507) (o := .cells #[.int .i64 t505, .int .i64 t506] 23 (0, 0)) (by (with_reducible repeat (first | refine blk_drewN ?_ _ | refine blk_drew ?_ | refine blk_alloc ?_ _)); refine blk_far ?_ NB507_514.out _; (with_reducible repeat (first | refine blk_drewN ?_ _ | refine blk_drew ?_ | refine blk_alloc ?_ _)); refine blk_far ?_ NB507_514.out _; (with_reducible repeat (first | refine blk_drewN ?_ _ | refine blk_drew ?_ | refine blk_alloc ?_ _)); exact BK507.out) hb); have n3_ := Aside0.mk (blk_below (g := gb510) (o := .cells #[.int .i64 t508, .int .i64 t509] 23 (0, 0)) (by (with_reducible repeat (first | refine blk_drewN ?_ _ | refine blk_drew ?_ | refine blk_alloc ?_ _)); refine blk_far ?_ NB510_514.out _; (with_reducible repeat (first | refine blk_drewN ?_ _ | refine blk_drew ?_ | refine blk_alloc ?_ _)); refine blk_far ?_ NB510_514.out _; (with_reducible repeat (first | refine blk_drewN ?_ _ | refine blk_drew ?_ | refine blk_alloc ?_ _)); exact BK510.out) hb); have n4_ := Aside0.mk (blk_below (g := gb514) (o := .cells #[.int .i64 t511, .int .i64 t512] 23 (0, 0)) (by (with_reducible repeat (first | refine blk_drewN ?_ _ | refine blk_drew ?_ | refine blk_alloc ?_ _)); refine blk_put (cs := #[.int .i64 t511, .int .i64 0]) ?_ 1 _ rfl; (with_reducible repeat (first | refine blk_drewN ?_ _ | refine blk_drew ?_ | refine blk_alloc ?_ _)); refine blk_put (cs := #[.int .i64 0, .int .i64 0]) ?_ 0 _ rfl; (with_reducible repeat (first | refine blk_drewN ?_ _ | refine blk_drew ?_ | refine blk_alloc ?_ _)); exact BK514.out) hb); have n5_ := Aside0.mk (below_step (by repeat (first | (with_reducible first | exact HB.out | apply below_alloc | apply pw_below_drewN | apply below_drew1 | refine below_set ?_ GE502.out | refine below_set ?_ GE503.out | refine below_set ?_ GE507.out | refine below_set ?_ GE510.out | refine below_set ?_ GE514.out) | exact HB.out)) hb); clear BK502; clear BK503; clear BK507; clear BK510; clear BK514; clear HB; have BK502 := n0_; have BK503 := n1_; have BK507 := n2_; have BK510 := n3_; have BK514 := n4_; have HB := n5_; clear n0_ n1_ n2_ n3_ n4_ n5_; (try clear hb); (try clear hb2); (try clear hk); (try clear hi)) | ((with_reducible refine gate_dst (N := 10) rfl ?_); refine box_event ?hg (N := 10) ?hd (cs := #[.int .i64 0, .int .i64 0]) (t := 23) ?hr ?_; (case hd => rfl); (case hg => rfl); (case hr => first | (go_simp; done) | (go_simp; rfl)); intro gb518 hg w41 hbox hb; have n0_ := Aside0.mk (blk_below (g := gb502) (o := .cells #[.int .i64 a0_0, .int .i64 a0_1] 23 (0, 0)) (by (with_reducible repeat (first | refine blk_drewN ?_ _ | refine blk_drew ?_ | refine blk_alloc ?_ _)); exact BK502.out) hb); have n1_ := Aside0.mk (blk_below (g := gb503) (o := .cells #[.int .i64 a1_0, .int .i64 a1_1] 23 (0, 0)) (by (with_reducible repeat (first | refine blk_drewN ?_ _ | refine blk_drew ?_ | refine blk_alloc ?_ _)); exact BK503.out) hb); have n2_ := Aside0.mk (blk_below (g := gb507) (o := .cells #[.int .i64 t505, .int .i64 t506] 23 (0, 0)) (by (with_reducible repeat (first | refine blk_drewN ?_ _ | refine blk_drew ?_ | refine blk_alloc ?_ _)); exact BK507.out) hb); have n3_ := Aside0.mk (blk_below (g := gb510) (o := .cells #[.int .i64 t508, .int .i64 t509] 23 (0, 0)) (by (with_reducible repeat (first | refine blk_drewN ?_ _ | refine blk_drew ?_ | refine blk_alloc ?_ _)); exact BK510.out) hb); have n4_ := Aside0.mk (blk_below (g := gb514) (o := .cells #[.int .i64 t511, .int .i64 t512] 23 (0, 0)) (by (with_reducible repeat (first | refine blk_drewN ?_ _ | refine blk_drew ?_ | refine blk_alloc ?_ _)); exact BK514.out) hb); have n5_ := Aside0.mk (below_step (by repeat (first | (with_reducible first | exact HB.out | apply below_alloc | apply pw_below_drewN | apply below_drew1 | refine below_set ?_ GE502.out | refine below_set ?_ GE503.out | refine below_set ?_ GE507.out | refine below_set ?_ GE510.out | refine below_set ?_ GE514.out) | exact HB.out)) hb); have n6_ := Aside0.mk (hbox); have n7_ := Aside0.mk ((by rw [hg]; exact (below_size (by repeat (first | (with_reducible first | exact HB.out | apply below_alloc | apply pw_below_drewN | apply below_drew1 | refine below_set ?_ GE502.out | refine below_set ?_ GE503.out | refine below_set ?_ GE507.out | refine below_set ?_ GE510.out | refine below_set ?_ GE514.out) | exact HB.out))) : w.heap.size ≤ gb518)); have n8_ := n7_; have n9_ := Aside0.mk ((by rw [hg]; exact Nat.ne_of_lt (blk_lt (g := gb502) (o := .cells #[.int .i64 a0_0, .int .i64 a0_1] 23 (0, 0)) (by (with_reducible repeat (first | refine blk_drewN ?_ _ | refine blk_drew ?_ | refine blk_alloc ?_ _)); exact BK502.out)) : gb502 ≠ gb518)); have n10_ := Aside0.mk n9_.out.symm; have n11_ := Aside0.mk ((by rw [hg]; exact Nat.ne_of_lt (blk_lt (g := gb503) (o := .cells #[.int .i64 a1_0, .int .i64 a1_1] 23 (0, 0)) (by (with_reducible repeat (first | refine blk_drewN ?_ _ | refine blk_drew ?_ | refine blk_alloc ?_ _)); exact BK503.out)) : gb503 ≠ gb518)); have n12_ := Aside0.mk n11_.out.symm; have n13_ := Aside0.mk ((by rw [hg]; exact Nat.ne_of_lt (blk_lt (g := gb507) (o := .cells #[.int .i64 t505, .int .i64 t506] 23 (0, 0)) (by (with_reducible repeat (first | refine blk_drewN ?_ _ | refine blk_drew ?_ | refine blk_alloc ?_ _)); exact BK507.out)) : gb507 ≠ gb518)); have n14_ := Aside0.mk n13_.out.symm; have n15_ := Aside0.mk ((by rw [hg]; exact Nat.ne_of_lt (blk_lt (g := gb510) (o := .cells #[.int .i64 t508, .int .i64 t509] 23 (0, 0)) (by (with_reducible repeat (first | refine blk_drewN ?_ _ | refine blk_drew ?_ | refine blk_alloc ?_ _)); exact BK510.out)) : gb510 ≠ gb518)); have n16_ := Aside0.mk n15_.out.symm; have n17_ := Aside0.mk ((by rw [hg]; exact Nat.ne_of_lt (blk_lt (g := gb514) (o := .cells #[.int .i64 t511, .int .i64 t512] 23 (0, 0)) (by (with_reducible repeat (first | refine blk_drewN ?_ _ | refine blk_drew ?_ | refine blk_alloc ?_ _)); exact BK514.out)) : gb514 ≠ gb518)); have n18_ := Aside0.mk n17_.out.symm; clear BK502; clear BK503; clear BK507; clear BK510; clear BK514; clear HB; have BK502 := n0_; have BK503 := n1_; have BK507 := n2_; have BK510 := n3_; have BK514 := n4_; have HB := n5_; have BK518 := n6_; have GW518 := n7_; have GE518 := n8_; have NB502_518 := n9_; have NB518_502 := n10_; have NB503_518 := n11_; have NB518_503 := n12_; have NB507_518 := n13_; have NB518_507 := n14_; have NB510_518 := n15_; have NB518_510 := n16_; have NB514_518 := n17_; have NB518_514 := n18_; clear n0_ n1_ n2_ n3_ n4_ n5_ n6_ n7_ n8_ n9_ n10_ n11_ n12_ n13_ n14_ n15_ n16_ n17_ n18_; clear hb hbox hg; have hnb42 := NB518_502.out; have hnc42 := NB502_518.out; have hnb43 := NB518_503.out; have hnc43 := NB503_518.out; have hnb44 := NB518_507.out; have hnc44 := NB507_518.out; have hnb45 := NB518_510.out; have hnc45 := NB510_518.out; have hnb46 := NB518_514.out; have hnc46 := NB514_518.out; have hcz47_0 : w41.cell? ⟨gb518, 0, none⟩ = some (.int .i64 0) := (blk_cell BK518.out 0).trans rfl; have hcz47_1 : w41.cell? ⟨gb518, 1, none⟩ = some (.int .i64 0) := (blk_cell BK518.out 1).trans rfl; have hfz47_0 := blk_frozen BK518.out 0; have hfz47_1 := blk_frozen BK518.out 1; have hcz48_0 : w41.cell? ⟨gb507, 0, none⟩ = some (.int .i64 t505) := (blk_cell BK507.out 0).trans rfl; have hcz48_1 : w41.cell? ⟨gb507, 1, none⟩ = some (.int .i64 t506) := (blk_cell BK507.out 1).trans rfl; have hfz48_0 := blk_frozen BK507.out 0; have hfz48_1 := blk_frozen BK507.out 1; have hcz49_0 : w41.cell? ⟨gb510, 0, none⟩ = some (.int .i64 t508) := (blk_cell BK510.out 0).trans rfl; have hcz49_1 : w41.cell? ⟨gb510, 1, none⟩ = some (.int .i64 t509) := (blk_cell BK510.out 1).trans rfl; have hfz49_0 := blk_frozen BK510.out 0; have hfz49_1 := blk_frozen BK510.out 1) | ((with_reducible refine gate_callee (f := 21) rfl ?_); refine goesL_ (some 42) rfl rfl Tryd.func21 (by kernel_rfl) rfl #[.agg #[.int .i64 t505, .int .i64 t506], .agg #[.int .i64 t508, .int .i64 t509]] rfl (by (try simp only [List.map_toArray, List.map_cons, List.map_nil]); first | done | rfl) ?_; (with_reducible refine (ratio_Mul.calls k t505 t506 t508 t509 t519 t520 t521 _ A9.out).mono ?_); rintro e w50 ⟨rfl, hb⟩; refine ⟨_, rfl, ?_⟩; have n0_ := Aside0.mk (blk_below (g := gb502) (o := .cells #[.int .i64 a0_0, .int .i64 a0_1] 23 (0, 0)) (by (with_reducible repeat (first | refine blk_drewN ?_ _ | refine blk_drew ?_ | refine blk_alloc ?_ _)); refine blk_far ?_ NB502_518.out _; (with_reducible repeat (first | refine blk_drewN ?_ _ | refine blk_drew ?_ | refine blk_alloc ?_ _)); refine blk_far ?_ NB502_518.out _; (with_reducible repeat (first | refine blk_drewN ?_ _ | refine blk_drew ?_ | refine blk_alloc ?_ _)); exact BK502.out) hb); have n1_ := Aside0.mk (blk_below (g := gb503) (o := .cells #[.int .i64 a1_0, .int .i64 a1_1] 23 (0, 0)) (by (with_reducible repeat (first | refine blk_drewN ?_ _ | refine blk_drew ?_ | refine blk_alloc ?_ _)); refine blk_far ?_ NB503_518.out _; (with_reducible repeat (first | refine blk_drewN ?_ _ | refine blk_drew ?_ | refine blk_alloc ?_ _)); refine blk_far ?_ NB503_518.out _; (with_reducible repeat (first | refine blk_drewN ?_ _ | refine blk_drew ?_ | refine blk_alloc ?_ _)); exact BK503.out) hb); have n2_ := Aside0.mk (blk_below (g := gb507) (o := .cells #[.int .i64 t505, .int .i64 t506] 23 (0, 0)) (by (with_reducible repeat (first | refine blk_drewN ?_ _ | refine blk_drew ?_ | refine blk_alloc ?_ _)); refine blk_far ?_ NB507_518.out _; (with_reducible repeat (first | refine blk_drewN ?_ _ | refine blk_drew ?_ | refine blk_alloc ?_ _)); refine blk_far ?_ NB507_518.out _; (with_reducible repeat (first | refine blk_drewN ?_ _ | refine blk_drew ?_ | refine blk_alloc ?_ _)); exact BK507.out) hb); have n3_ := Aside0.mk (blk_below (g := gb510) (o := .cells #[.int .i64 t508, .int .i64 t509] 23 (0, 0)) (by (with_reducible repeat (first | refine blk_drewN ?_ _ | refine blk_drew ?_ | refine blk_alloc ?_ _)); refine blk_far ?_ NB510_518.out _; (with_reducible repeat (first | refine blk_drewN ?_ _ | refine blk_drew ?_ | refine blk_alloc ?_ _)); refine blk_far ?_ NB510_518.out _; (with_reducible repeat (first | refine blk_drewN ?_ _ | refine blk_drew ?_ | refine blk_alloc ?_ _)); exact BK510.out) hb); have n4_ := Aside0.mk (blk_below (g := gb514) (o := .cells #[.int .i64 t511, .int .i64 t512] 23 (0, 0)) (by (with_reducible repeat (first | refine blk_drewN ?_ _ | refine blk_drew ?_ | refine blk_alloc ?_ _)); refine blk_far ?_ NB514_518.out _; (with_reducible repeat (first | refine blk_drewN ?_ _ | refine blk_drew ?_ | refine blk_alloc ?_ _)); refine blk_far ?_ NB514_518.out _; (with_reducible repeat (first | refine blk_drewN ?_ _ | refine blk_drew ?_ | refine blk_alloc ?_ _)); exact BK514.out) hb); have n5_ := Aside0.mk (blk_below (g := gb518) (o := .cells #[.int .i64 t515, .int .i64 t516] 23 (0, 0)) (by (with_reducible repeat (first | refine blk_drewN ?_ _ | refine blk_drew ?_ | refine blk_alloc ?_ _)); refine blk_put (cs := #[.int .i64 t515, .int .i64 0]) ?_ 1 _ rfl; (with_reducible repeat (first | refine blk_drewN ?_ _ | refine blk_drew ?_ | refine blk_alloc ?_ _)); refine blk_put (cs := #[.int .i64 0, .int .i64 0]) ?_ 0 _ rfl; (with_reducible repeat (first | refine blk_drewN ?_ _ | refine blk_drew ?_ | refine blk_alloc ?_ _)); exact BK518.out) hb); have n6_ := Aside0.mk (below_step (by repeat (first | (with_reducible first | exact HB.out | apply below_alloc | apply pw_below_drewN | apply below_drew1 | refine below_set ?_ GE502.out | refine below_set ?_ GE503.out | refine below_set ?_ GE507.out | refine below_set ?_ GE510.out | refine below_set ?_ GE514.out | refine below_set ?_ GE518.out) | exact HB.out)) hb); clear BK502; clear BK503; clear BK507; clear BK510; clear BK514; clear BK518; clear HB; have BK502 := n0_; have BK503 := n1_; have BK507 := n2_; have BK510 := n3_; have BK514 := n4_; have BK518 := n5_; have HB := n6_; clear n0_ n1_ n2_ n3_ n4_ n5_ n6_; (try clear hb); (try clear hb2); (try clear hk); (try clear hi)) | ((with_reducible refine gate_dst (N := 12) rfl ?_); refine box_event ?hg (N := 12) ?hd (cs := #[.int .i64 0, .int .i64 0]) (t := 23) ?hr ?_; (case hd => rfl); (case hg => rfl); (case hr => first | (go_simp; done) | (go_simp; rfl)); intro gb522 hg w51 hbox hb; have n0_ := Aside0.mk (blk_below (g := gb502) (o := .cells #[.int .i64 a0_0, .int .i64 a0_1] 23 (0, 0)) (by (with_reducible repeat (first | refine blk_drewN ?_ _ | refine blk_drew ?_ | refine blk_alloc ?_ _)); exact BK502.out) hb); have n1_ := Aside0.mk (blk_below (g := gb503) (o := .cells #[.int .i64 a1_0, .int .i64 a1_1] 23 (0, 0)) (by (with_reducible repeat (first | refine blk_drewN ?_ _ | refine blk_drew ?_ | refine blk_alloc ?_ _)); exact BK503.out) hb); have n2_ := Aside0.mk (blk_below (g := gb507) (o := .cells #[.int .i64 t505, .int .i64 t506] 23 (0, 0)) (by (with_reducible repeat (first | refine blk_drewN ?_ _ | refine blk_drew ?_ | refine blk_alloc ?_ _)); exact BK507.out) hb); have n3_ := Aside0.mk (blk_below (g := gb510) (o := .cells #[.int .i64 t508, .int .i64 t509] 23 (0, 0)) (by (with_reducible repeat (first | refine blk_drewN ?_ _ | refine blk_drew ?_ | refine blk_alloc ?_ _)); exact BK510.out) hb); have n4_ := Aside0.mk (blk_below (g := gb514) (o := .cells #[.int .i64 t511, .int .i64 t512] 23 (0, 0)) (by (with_reducible repeat (first | refine blk_drewN ?_ _ | refine blk_drew ?_ | refine blk_alloc ?_ _)); exact BK514.out) hb); have n5_ := Aside0.mk (blk_below (g := gb518) (o := .cells #[.int .i64 t515, .int .i64 t516] 23 (0, 0)) (by (with_reducible repeat (first | refine blk_drewN ?_ _ | refine blk_drew ?_ | refine blk_alloc ?_ _)); exact BK518.out) hb); have n6_ := Aside0.mk (below_step (by repeat (first | (with_reducible first | exact HB.out | apply below_alloc | apply pw_below_drewN | apply below_drew1 | refine below_set ?_ GE502.out | refine below_set ?_ GE503.out | refine below_set ?_ GE507.out | refine below_set ?_ GE510.out | refine below_set ?_ GE514.out | refine below_set ?_ GE518.out) | exact HB.out)) hb); have n7_ := Aside0.mk (hbox); have n8_ := Aside0.mk ((by rw [hg]; exact (below_size (by repeat (first | (with_reducible first | exact HB.out | apply below_alloc | apply pw_below_drewN | apply below_drew1 | refine below_set ?_ GE502.out | refine below_set ?_ GE503.out | refine below_set ?_ GE507.out | refine below_set ?_ GE510.out | refine below_set ?_ GE514.out | refine below_set ?_ GE518.out) | exact HB.out))) : w.heap.size ≤ gb522)); have n9_ := n8_; have n10_ := Aside0.mk ((by rw [hg]; exact Nat.ne_of_lt (blk_lt (g := gb502) (o := .cells #[.int .i64 a0_0, .int .i64 a0_1] 23 (0, 0)) (by (with_reducible repeat (first | refine blk_drewN ?_ _ | refine blk_drew ?_ | refine blk_alloc ?_ _)); exact BK502.out)) : gb502 ≠ gb522)); have n11_ := Aside0.mk n10_.out.symm; have n12_ := Aside0.mk ((by rw [hg]; exact Nat.ne_of_lt (blk_lt (g := gb503) (o := .cells #[.int .i64 a1_0, .int .i64 a1_1] 23 (0, 0)) (by (with_reducible repeat (first | refine blk_drewN ?_ _ | refine blk_drew ?_ | refine blk_alloc ?_ _)); exact BK503.out)) : gb503 ≠ gb522)); have n13_ := Aside0.mk n12_.out.symm; have n14_ := Aside0.mk ((by rw [hg]; exact Nat.ne_of_lt (blk_lt (g := gb507) (o := .cells #[.int .i64 t505, .int .i64 t506] 23 (0, 0)) (by (with_reducible repeat (first | refine blk_drewN ?_ _ | refine blk_drew ?_ | refine blk_alloc ?_ _)); exact BK507.out)) : gb507 ≠ gb522)); have n15_ := Aside0.mk n14_.out.symm; have n16_ := Aside0.mk ((by rw [hg]; exact Nat.ne_of_lt (blk_lt (g := gb510) (o := .cells #[.int .i64 t508, .int .i64 t509] 23 (0, 0)) (by (with_reducible repeat (first | refine blk_drewN ?_ _ | refine blk_drew ?_ | refine blk_alloc ?_ _)); exact BK510.out)) : gb510 ≠ gb522)); have n17_ := Aside0.mk n16_.out.symm; have n18_ := Aside0.mk ((by rw [hg]; exact Nat.ne_of_lt (blk_lt (g := gb514) (o := .cells #[.int .i64 t511, .int .i64 t512] 23 (0, 0)) (by (with_reducible repeat (first | refine blk_drewN ?_ _ | refine blk_drew ?_ | refine blk_alloc ?_ _)); exact BK514.out)) : gb514 ≠ gb522)); have n19_ := Aside0.mk n18_.out.symm; have n20_ := Aside0.mk ((by rw [hg]; exact Nat.ne_of_lt (blk_lt (g := gb518) (o := .cells #[.int .i64 t515, .int .i64 t516] 23 (0, 0)) (by (with_reducible repeat (first | refine blk_drewN ?_ _ | refine blk_drew ?_ | refine blk_alloc ?_ _)); exact BK518.out)) : gb518 ≠ gb522)); have n21_ := Aside0.mk n20_.out.symm; clear BK502; clear BK503; clear BK507; clear BK510; clear BK514; clear BK518; clear HB; have BK502 := n0_; have BK503 := n1_; have BK507 := n2_; have BK510 := n3_; have BK514 := n4_; have BK518 := n5_; have HB := n6_; have BK522 := n7_; have GW522 := n8_; have GE522 := n9_; have NB502_522 := n10_; have NB522_502 := n11_; have NB503_522 := n12_; have NB522_503 := n13_; have NB507_522 := n14_; have NB522_507 := n15_; have NB510_522 := n16_; have NB522_510 := n17_; have NB514_522 := n18_; have NB522_514 := n19_; have NB518_522 := n20_; have NB522_518 := n21_; clear n0_ n1_ n2_ n3_ n4_ n5_ n6_ n7_ n8_ n9_ n10_ n11_ n12_ n13_ n14_ n15_ n16_ n17_ n18_ n19_ n20_ n21_; clear hb hbox hg; have hnb52 := NB522_502.out; have hnc52 := NB502_522.out; have hnb53 := NB522_503.out; have hnc53 := NB503_522.out; have hnb54 := NB522_507.out; have hnc54 := NB507_522.out; have hnb55 := NB522_510.out; have hnc55 := NB510_522.out; have hnb56 := NB522_514.out; have hnc56 := NB514_522.out; have hnb57 := NB522_518.out; have hnc57 := NB518_522.out; have hcz58_0 : w51.cell? ⟨gb522, 0, none⟩ = some (.int .i64 0) := (blk_cell BK522.out 0).trans rfl; have hcz58_1 : w51.cell? ⟨gb522, 1, none⟩ = some (.int .i64 0) := (blk_cell BK522.out 1).trans rfl; have hfz58_0 := blk_frozen BK522.out 0; have hfz58_1 := blk_frozen BK522.out 1; have hcz59_0 : w51.cell? ⟨gb510, 0, none⟩ = some (.int .i64 t508) := (blk_cell BK510.out 0).trans rfl; have hcz59_1 : w51.cell? ⟨gb510, 1, none⟩ = some (.int .i64 t509) := (blk_cell BK510.out 1).trans rfl; have hfz59_0 := blk_frozen BK510.out 0; have hfz59_1 := blk_frozen BK510.out 1) | ((with_reducible refine gate_callee (f := 23) rfl ?_); refine goesL_ (some 48) rfl rfl Tryd.func23 (by kernel_rfl) rfl #[.agg #[.int .i64 t519, .int .i64 t520], .agg #[.int .i64 t508, .int .i64 t509]] rfl (by (try simp only [List.map_toArray, List.map_cons, List.map_nil]); first | done | rfl) ?_; (with_reducible refine (ratio_Div.calls k t519 t520 t508 t509 t523 t524 t525 _ A10.out).mono ?_); rintro e w60 ⟨rfl, hb⟩; refine ⟨_, rfl, ?_⟩; have n0_ := Aside0.mk (blk_below (g := gb502) (o := .cells #[.int .i64 a0_0, .int .i64 a0_1] 23 (0, 0)) (by (with_reducible repeat (first | refine blk_drewN ?_ _ | refine blk_drew ?_ | refine blk_alloc ?_ _)); refine blk_far ?_ NB502_522.out _; (with_reducible repeat (first | refine blk_drewN ?_ _ | refine blk_drew ?_ | refine blk_alloc ?_ _)); refine blk_far ?_ NB502_522.out _; (with_reducible repeat (first | refine blk_drewN ?_ _ | refine blk_drew ?_ | refine blk_alloc ?_ _)); exact BK502.out) hb); have n1_ := Aside0.mk (blk_below (g := gb503) (o := .cells #[.int .i64 a1_0, .int .i64 a1_1] 23 (0, 0)) (by (with_reducible repeat (first | refine blk_drewN ?_ _ | refine blk_drew ?_ | refine blk_alloc ?_ _)); refine blk_far ?_ NB503_522.out _; (with_reducible repeat (first | refine blk_drewN ?_ _ | refine blk_drew ?_ | refine blk_alloc ?_ _)); refine blk_far ?_ NB503_522.out _; (with_reducible repeat (first | refine blk_drewN ?_ _ | refine blk_drew ?_ | refine blk_alloc ?_ _)); exact BK503.out) hb); have n2_ := Aside0.mk (blk_below (g := gb507) (o := .cells #[.int .i64 t505, .int .i64 t506] 23 (0, 0)) (by (with_reducible repeat (first | refine blk_drewN ?_ _ | refine blk_drew ?_ | refine blk_alloc ?_ _)); refine blk_far ?_ NB507_522.out _; (with_reducible repeat (first | refine blk_drewN ?_ _ | refine blk_drew ?_ | refine blk_alloc ?_ _)); refine blk_far ?_ NB507_522.out _; (with_reducible repeat (first | refine blk_drewN ?_ _ | refine blk_drew ?_ | refine blk_alloc ?_ _)); exact BK507.out) hb); have n3_ := Aside0.mk (blk_below (g := gb510) (o := .cells #[.int .i64 t508, .int .i64 t509] 23 (0, 0)) (by (with_reducible repeat (first | refine blk_drewN ?_ _ | refine blk_drew ?_ | refine blk_alloc ?_ _)); refine blk_far ?_ NB510_522.out _; (with_reducible repeat (first | refine blk_drewN ?_ _ | refine blk_drew ?_ | refine blk_alloc ?_ _)); refine blk_far ?_ NB510_522.out _; (with_reducible repeat (first | refine blk_drewN ?_ _ | refine blk_drew ?_ | refine blk_alloc ?_ _)); exact BK510.out) hb); have n4_ := Aside0.mk (blk_below (g := gb514) (o := .cells #[.int .i64 t511, .int .i64 t512] 23 (0, 0)) (by (with_reducible repeat (first | refine blk_drewN ?_ _ | refine blk_drew ?_ | refine blk_alloc ?_ _)); refine blk_far ?_ NB514_522.out _; (with_reducible repeat (first | refine blk_drewN ?_ _ | refine blk_drew ?_ | refine blk_alloc ?_ _)); refine blk_far ?_ NB514_522.out _; (with_reducible repeat (first | refine blk_drewN ?_ _ | refine blk_drew ?_ | refine blk_alloc ?_ _)); exact BK514.out) hb); have n5_ := Aside0.mk (blk_below (g := gb518) (o := .cells #[.int .i64 t515, .int .i64 t516] 23 (0, 0)) (by (with_reducible repeat (first | refine blk_drewN ?_ _ | refine blk_drew ?_ | refine blk_alloc ?_ _)); refine blk_far ?_ NB518_522.out _; (with_reducible repeat (first | refine blk_drewN ?_ _ | refine blk_drew ?_ | refine blk_alloc ?_ _)); refine blk_far ?_ NB518_522.out _; (with_reducible repeat (first | refine blk_drewN ?_ _ | refine blk_drew ?_ | refine blk_alloc ?_ _)); exact BK518.out) hb); have n6_ := Aside0.mk (blk_below (g := gb522) (o := .cells #[.int .i64 t519, .int .i64 t520] 23 (0, 0)) (by (with_reducible repeat (first | refine blk_drewN ?_ _ | refine blk_drew ?_ | refine blk_alloc ?_ _)); refine blk_put (cs := #[.int .i64 t519, .int .i64 0]) ?_ 1 _ rfl; (with_reducible repeat (first | refine blk_drewN ?_ _ | refine blk_drew ?_ | refine blk_alloc ?_ _)); refine blk_put (cs := #[.int .i64 0, .int .i64 0]) ?_ 0 _ rfl; (with_reducible repeat (first | refine blk_drewN ?_ _ | refine blk_drew ?_ | refine blk_alloc ?_ _)); exact BK522.out) hb); have n7_ := Aside0.mk (below_step (by repeat (first | (with_reducible first | exact HB.out | apply below_alloc | apply pw_below_drewN | apply below_drew1 | refine below_set ?_ GE502.out | refine below_set ?_ GE503.out | refine below_set ?_ GE507.out | refine below_set ?_ GE510.out | refine below_set ?_ GE514.out | refine below_set ?_ GE518.out | refine below_set ?_ GE522.out) | exact HB.out)) hb); clear BK502; clear BK503; clear BK507; clear BK510; clear BK514; clear BK518; clear BK522; clear HB; have BK502 := n0_; have BK503 := n1_; have BK507 := n2_; have BK510 := n3_; have BK514 := n4_; have BK518 := n5_; have BK522 := n6_; have HB := n7_; clear n0_ n1_ n2_ n3_ n4_ n5_ n6_ n7_; (try clear hb); (try clear hb2); (try clear hk); (try clear hi)) | ((with_reducible refine gate_dst (N := 14) rfl ?_); refine box_event ?hg (N := 14) ?hd (cs := #[.int .i64 0, .int .i64 0]) (t := 23) ?hr ?_; (case hd => rfl); (case hg => rfl); (case hr => first | (go_simp; done) | (go_simp; rfl)); intro gb526 hg w61 hbox hb; have n0_ := Aside0.mk (blk_below (g := gb502) (o := .cells #[.int .i64 a0_0, .int .i64 a0_1] 23 (0, 0)) (by (with_reducible repeat (first | refine blk_drewN ?_ _ | refine blk_drew ?_ | refine blk_alloc ?_ _)); exact BK502.out) hb); have n1_ := Aside0.mk (blk_below (g := gb503) (o := .cells #[.int .i64 a1_0, .int .i64 a1_1] 23 (0, 0)) (by (with_reducible repeat (first | refine blk_drewN ?_ _ | refine blk_drew ?_ | refine blk_alloc ?_ _)); exact BK503.out) hb); have n2_ := Aside0.mk (blk_below (g := gb507) (o := .cells #[.int .i64 t505, .int .i64 t506] 23 (0, 0)) (by (with_reducible repeat (first | refine blk_drewN ?_ _ | refine blk_drew ?_ | refine blk_alloc ?_ _)); exact BK507.out) hb); have n3_ := Aside0.mk (blk_below (g := gb510) (o := .cells #[.int .i64 t508, .int .i64 t509] 23 (0, 0)) (by (with_reducible repeat (first | refine blk_drewN ?_ _ | refine blk_drew ?_ | refine blk_alloc ?_ _)); exact BK510.out) hb); have n4_ := Aside0.mk (blk_below (g := gb514) (o := .cells #[.int .i64 t511, .int .i64 t512] 23 (0, 0)) (by (with_reducible repeat (first | refine blk_drewN ?_ _ | refine blk_drew ?_ | refine blk_alloc ?_ _)); exact BK514.out) hb); have n5_ := Aside0.mk (blk_below (g := gb518) (o := .cells #[.int .i64 t515, .int .i64 t516] 23 (0, 0)) (by (with_reducible repeat (first | refine blk_drewN ?_ _ | refine blk_drew ?_ | refine blk_alloc ?_ _)); exact BK518.out) hb); have n6_ := Aside0.mk (blk_below (g := gb522) (o := .cells #[.int .i64 t519, .int .i64 t520] 23 (0, 0)) (by (with_reducible repeat (first | refine blk_drewN ?_ _ | refine blk_drew ?_ | refine blk_alloc ?_ _)); exact BK522.out) hb); have n7_ := Aside0.mk (below_step (by repeat (first | (with_reducible first | exact HB.out | apply below_alloc | apply pw_below_drewN | apply below_drew1 | refine below_set ?_ GE502.out | refine below_set ?_ GE503.out | refine below_set ?_ GE507.out | refine below_set ?_ GE510.out | refine below_set ?_ GE514.out | refine below_set ?_ GE518.out | refine below_set ?_ GE522.out) | exact HB.out)) hb); have n8_ := Aside0.mk (hbox); have n9_ := Aside0.mk ((by rw [hg]; exact (below_size (by repeat (first | (with_reducible first | exact HB.out | apply below_alloc | apply pw_below_drewN | apply below_drew1 | refine below_set ?_ GE502.out | refine below_set ?_ GE503.out | refine below_set ?_ GE507.out | refine below_set ?_ GE510.out | refine below_set ?_ GE514.out | refine below_set ?_ GE518.out | refine below_set ?_ GE522.out) | exact HB.out))) : w.heap.size ≤ gb526)); have n10_ := n9_; have n11_ := Aside0.mk ((by rw [hg]; exact Nat.ne_of_lt (blk_lt (g := gb502) (o := .cells #[.int .i64 a0_0, .int .i64 a0_1] 23 (0, 0)) (by (with_reducible repeat (first | refine blk_drewN ?_ _ | refine blk_drew ?_ | refine blk_alloc ?_ _)); exact BK502.out)) : gb502 ≠ gb526)); have n12_ := Aside0.mk n11_.out.symm; have n13_ := Aside0.mk ((by rw [hg]; exact Nat.ne_of_lt (blk_lt (g := gb503) (o := .cells #[.int .i64 a1_0, .int .i64 a1_1] 23 (0, 0)) (by (with_reducible repeat (first | refine blk_drewN ?_ _ | refine blk_drew ?_ | refine blk_alloc ?_ _)); exact BK503.out)) : gb503 ≠ gb526)); have n14_ := Aside0.mk n13_.out.symm; have n15_ := Aside0.mk ((by rw [hg]; exact Nat.ne_of_lt (blk_lt (g := gb507) (o := .cells #[.int .i64 t505, .int .i64 t506] 23 (0, 0)) (by (with_reducible repeat (first | refine blk_drewN ?_ _ | refine blk_drew ?_ | refine blk_alloc ?_ _)); exact BK507.out)) : gb507 ≠ gb526)); have n16_ := Aside0.mk n15_.out.symm; have n17_ := Aside0.mk ((by rw [hg]; exact Nat.ne_of_lt (blk_lt (g := gb510) (o := .cells #[.int .i64 t508, .int .i64 t509] 23 (0, 0)) (by (with_reducible repeat (first | refine blk_drewN ?_ _ | refine blk_drew ?_ | refine blk_alloc ?_ _)); exact BK510.out)) : gb510 ≠ gb526)); have n18_ := Aside0.mk n17_.out.symm; have n19_ := Aside0.mk ((by rw [hg]; exact Nat.ne_of_lt (blk_lt (g := gb514) (o := .cells #[.int .i64 t511, .int .i64 t512] 23 (0, 0)) (by (with_reducible repeat (first | refine blk_drewN ?_ _ | refine blk_drew ?_ | refine blk_alloc ?_ _)); exact BK514.out)) : gb514 ≠ gb526)); have n20_ := Aside0.mk n19_.out.symm; have n21_ := Aside0.mk ((by rw [hg]; exact Nat.ne_of_lt (blk_lt (g := gb518) (o := .cells #[.int .i64 t515, .int .i64 t516] 23 (0, 0)) (by (with_reducible repeat (first | refine blk_drewN ?_ _ | refine blk_drew ?_ | refine blk_alloc ?_ _)); exact BK518.out)) : gb518 ≠ gb526)); have n22_ := Aside0.mk n21_.out.symm; have n23_ := Aside0.mk ((by rw [hg]; exact Nat.ne_of_lt (blk_lt (g := gb522) (o := .cells #[.int .i64 t519, .int .i64 t520] 23 (0, 0)) (by (with_reducible repeat (first | refine blk_drewN ?_ _ | refine blk_drew ?_ | refine blk_alloc ?_ _)); exact BK522.out)) : gb522 ≠ gb526)); have n24_ := Aside0.mk n23_.out.symm; clear BK502; clear BK503; clear BK507; clear BK510; clear BK514; clear BK518; clear BK522; clear HB; have BK502 := n0_; have BK503 := n1_; have BK507 := n2_; have BK510 := n3_; have BK514 := n4_; have BK518 := n5_; have BK522 := n6_; have HB := n7_; have BK526 := n8_; have GW526 := n9_; have GE526 := n10_; have NB502_526 := n11_; have NB526_502 := n12_; have NB503_526 := n13_; have NB526_503 := n14_; have NB507_526 := n15_; have NB526_507 := n16_; have NB510_526 := n17_; have NB526_510 := n18_; have NB514_526 := n19_; have NB526_514 := n20_; have NB518_526 := n21_; have NB526_518 := n22_; have NB522_526 := n23_; have NB526_522 := n24_; clear n0_ n1_ n2_ n3_ n4_ n5_ n6_ n7_ n8_ n9_ n10_ n11_ n12_ n13_ n14_ n15_ n16_ n17_ n18_ n19_ n20_ n21_ n22_ n23_ n24_; clear hb hbox hg; have hnb62 := NB526_502.out; have hnc62 := NB502_526.out; have hnb63 := NB526_503.out; have hnc63 := NB503_526.out; have hnb64 := NB526_507.out; have hnc64 := NB507_526.out; have hnb65 := NB526_510.out; have hnc65 := NB510_526.out; have hnb66 := NB526_514.out; have hnc66 := NB514_526.out; have hnb67 := NB526_518.out; have hnc67 := NB518_526.out; have hnb68 := NB526_522.out; have hnc68 := NB522_526.out; have hcz69_0 : w61.cell? ⟨gb526, 0, none⟩ = some (.int .i64 0) := (blk_cell BK526.out 0).trans rfl; have hcz69_1 : w61.cell? ⟨gb526, 1, none⟩ = some (.int .i64 0) := (blk_cell BK526.out 1).trans rfl; have hfz69_0 := blk_frozen BK526.out 0; have hfz69_1 := blk_frozen BK526.out 1; have hcz70_0 : w61.cell? ⟨gb507, 0, none⟩ = some (.int .i64 t505) := (blk_cell BK507.out 0).trans rfl; have hcz70_1 : w61.cell? ⟨gb507, 1, none⟩ = some (.int .i64 t506) := (blk_cell BK507.out 1).trans rfl; have hfz70_0 := blk_frozen BK507.out 0; have hfz70_1 := blk_frozen BK507.out 1) | ((with_reducible refine gate_callee (f := 22) rfl ?_); refine goesL_ (some 54) rfl rfl Tryd.func22 (by kernel_rfl) rfl #[.agg #[.int .i64 t505, .int .i64 t506], .agg #[.int .i64 t505, .int .i64 t506]] rfl (by (try simp only [List.map_toArray, List.map_cons, List.map_nil]); first | done | rfl) ?_; (with_reducible refine (ratio_Sub.calls k t505 t506 t505 t506 t527 t528 t529 _ A11.out).mono ?_); rintro e w71 ⟨rfl, hb⟩; refine ⟨_, rfl, ?_⟩; have n0_ := Aside0.mk (blk_below (g := gb502) (o := .cells #[.int .i64 a0_0, .int .i64 a0_1] 23 (0, 0)) (by (with_reducible repeat (first | refine blk_drewN ?_ _ | refine blk_drew ?_ | refine blk_alloc ?_ _)); refine blk_far ?_ NB502_526.out _; (with_reducible repeat (first | refine blk_drewN ?_ _ | refine blk_drew ?_ | refine blk_alloc ?_ _)); refine blk_far ?_ NB502_526.out _; (with_reducible repeat (first | refine blk_drewN ?_ _ | refine blk_drew ?_ | refine blk_alloc ?_ _)); exact BK502.out) hb); have n1_ := Aside0.mk (blk_below (g := gb503) (o := .cells #[.int .i64 a1_0, .int .i64 a1_1] 23 (0, 0)) (by (with_reducible repeat (first | refine blk_drewN ?_ _ | refine blk_drew ?_ | refine blk_alloc ?_ _)); refine blk_far ?_ NB503_526.out _; (with_reducible repeat (first | refine blk_drewN ?_ _ | refine blk_drew ?_ | refine blk_alloc ?_ _)); refine blk_far ?_ NB503_526.out _; (with_reducible repeat (first | refine blk_drewN ?_ _ | refine blk_drew ?_ | refine blk_alloc ?_ _)); exact BK503.out) hb); have n2_ := Aside0.mk (blk_below (g := gb507) (o := .cells #[.int .i64 t505, .int .i64 t506] 23 (0, 0)) (by (with_reducible repeat (first | refine blk_drewN ?_ _ | refine blk_drew ?_ | refine blk_alloc ?_ _)); refine blk_far ?_ NB507_526.out _; (with_reducible repeat (first | refine blk_drewN ?_ _ | refine blk_drew ?_ | refine blk_alloc ?_ _)); refine blk_far ?_ NB507_526.out _; (with_reducible repeat (first | refine blk_drewN ?_ _ | refine blk_drew ?_ | refine blk_alloc ?_ _)); exact BK507.out) hb); have n3_ := Aside0.mk (blk_below (g := gb510) (o := .cells #[.int .i64 t508, .int .i64 t509] 23 (0, 0)) (by (with_reducible repeat (first | refine blk_drewN ?_ _ | refine blk_drew ?_ | refine blk_alloc ?_ _)); refine blk_far ?_ NB510_526.out _; (with_reducible repeat (first | refine blk_drewN ?_ _ | refine blk_drew ?_ | refine blk_alloc ?_ _)); refine blk_far ?_ NB510_526.out _; (with_reducible repeat (first | refine blk_drewN ?_ _ | refine blk_drew ?_ | refine blk_alloc ?_ _)); exact BK510.out) hb); have n4_ := Aside0.mk (blk_below (g := gb514) (o := .cells #[.int .i64 t511, .int .i64 t512] 23 (0, 0)) (by (with_reducible repeat (first | refine blk_drewN ?_ _ | refine blk_drew ?_ | refine blk_alloc ?_ _)); refine blk_far ?_ NB514_526.out _; (with_reducible repeat (first | refine blk_drewN ?_ _ | refine blk_drew ?_ | refine blk_alloc ?_ _)); refine blk_far ?_ NB514_526.out _; (with_reducible repeat (first | refine blk_drewN ?_ _ | refine blk_drew ?_ | refine blk_alloc ?_ _)); exact BK514.out) hb); have n5_ := Aside0.mk (blk_below (g := gb518) (o := .cells #[.int .i64 t515, .int .i64 t516] 23 (0, 0)) (by (with_reducible repeat (first | refine blk_drewN ?_ _ | refine blk_drew ?_ | refine blk_alloc ?_ _)); refine blk_far ?_ NB518_526.out _; (with_reducible repeat (first | refine blk_drewN ?_ _ | refine blk_drew ?_ | refine blk_alloc ?_ _)); refine blk_far ?_ NB518_526.out _; (with_reducible repeat (first | refine blk_drewN ?_ _ | refine blk_drew ?_ | refine blk_alloc ?_ _)); exact BK518.out) hb); have n6_ := Aside0.mk (blk_below (g := gb522) (o := .cells #[.int .i64 t519, .int .i64 t520] 23 (0, 0)) (by (with_reducible repeat (first | refine blk_drewN ?_ _ | refine blk_drew ?_ | refine blk_alloc ?_ _)); refine blk_far ?_ NB522_526.out _; (with_reducible repeat (first | refine blk_drewN ?_ _ | refine blk_drew ?_ | refine blk_alloc ?_ _)); refine blk_far ?_ NB522_526.out _; (with_reducible repeat (first | refine blk_drewN ?_ _ | refine blk_drew ?_ | refine blk_alloc ?_ _)); exact BK522.out) hb); have n7_ := Aside0.mk (blk_below (g := gb526) (o := .cells #[.int .i64 t523, .int .i64 t524] 23 (0, 0)) (by (with_reducible repeat (first | refine blk_drewN ?_ _ | refine blk_drew ?_ | refine blk_alloc ?_ _)); refine blk_put (cs := #[.int .i64 t523, .int .i64 0]) ?_ 1 _ rfl; (with_reducible repeat (first | refine blk_drewN ?_ _ | refine blk_drew ?_ | refine blk_alloc ?_ _)); refine blk_put (cs := #[.int .i64 0, .int .i64 0]) ?_ 0 _ rfl; (with_reducible repeat (first | refine blk_drewN ?_ _ | refine blk_drew ?_ | refine blk_alloc ?_ _)); exact BK526.out) hb); have n8_ := Aside0.mk (below_step (by repeat (first | (with_reducible first | exact HB.out | apply below_alloc | apply pw_below_drewN | apply below_drew1 | refine below_set ?_ GE502.out | refine below_set ?_ GE503.out | refine below_set ?_ GE507.out | refine below_set ?_ GE510.out | refine below_set ?_ GE514.out | refine below_set ?_ GE518.out | refine below_set ?_ GE522.out | refine below_set ?_ GE526.out) | exact HB.out)) hb); clear BK502; clear BK503; clear BK507; clear BK510; clear BK514; clear BK518; clear BK522; clear BK526; clear HB; have BK502 := n0_; have BK503 := n1_; have BK507 := n2_; have BK510 := n3_; have BK514 := n4_; have BK518 := n5_; have BK522 := n6_; have BK526 := n7_; have HB := n8_; clear n0_ n1_ n2_ n3_ n4_ n5_ n6_ n7_ n8_; (try clear hb); (try clear hb2); (try clear hk); (try clear hi)) | ((with_reducible refine gate_dst (N := 16) rfl ?_); refine box_event ?hg (N := 16) ?hd (cs := #[.int .i64 0, .int .i64 0]) (t := 23) ?hr ?_; (case hd => rfl); (case hg => rfl); (case hr => first | (go_simp; done) | (go_simp; rfl)); intro gb530 hg w72 hbox hb; have n0_ := Aside0.mk (blk_below (g := gb502) (o := .cells #[.int .i64 a0_0, .int .i64 a0_1] 23 (0, 0)) (by (with_reducible repeat (first | refine blk_drewN ?_ _ | refine blk_drew ?_ | refine blk_alloc ?_ _)); exact BK502.out) hb); have n1_ := Aside0.mk (blk_below (g := gb503) (o := .cells #[.int .i64 a1_0, .int .i64 a1_1] 23 (0, 0)) (by (with_reducible repeat (first | refine blk_drewN ?_ _ | refine blk_drew ?_ | refine blk_alloc ?_ _)); exact BK503.out) hb); have n2_ := Aside0.mk (blk_below (g := gb507) (o := .cells #[.int .i64 t505, .int .i64 t506] 23 (0, 0)) (by (with_reducible repeat (first | refine blk_drewN ?_ _ | refine blk_drew ?_ | refine blk_alloc ?_ _)); exact BK507.out) hb); have n3_ := Aside0.mk (blk_below (g := gb510) (o := .cells #[.int .i64 t508, .int .i64 t509] 23 (0, 0)) (by (with_reducible repeat (first | refine blk_drewN ?_ _ | refine blk_drew ?_ | refine blk_alloc ?_ _)); exact BK510.out) hb); have n4_ := Aside0.mk (blk_below (g := gb514) (o := .cells #[.int .i64 t511, .int .i64 t512] 23 (0, 0)) (by (with_reducible repeat (first | refine blk_drewN ?_ _ | refine blk_drew ?_ | refine blk_alloc ?_ _)); exact BK514.out) hb); have n5_ := Aside0.mk (blk_below (g := gb518) (o := .cells #[.int .i64 t515, .int .i64 t516] 23 (0, 0)) (by (with_reducible repeat (first | refine blk_drewN ?_ _ | refine blk_drew ?_ | refine blk_alloc ?_ _)); exact BK518.out) hb); have n6_ := Aside0.mk (blk_below (g := gb522) (o := .cells #[.int .i64 t519, .int .i64 t520] 23 (0, 0)) (by (with_reducible repeat (first | refine blk_drewN ?_ _ | refine blk_drew ?_ | refine blk_alloc ?_ _)); exact BK522.out) hb); have n7_ := Aside0.mk (blk_below (g := gb526) (o := .cells #[.int .i64 t523, .int .i64 t524] 23 (0, 0)) (by (with_reducible repeat (first | refine blk_drewN ?_ _ | refine blk_drew ?_ | refine blk_alloc ?_ _)); exact BK526.out) hb); have n8_ := Aside0.mk (below_step (by repeat (first | (with_reducible first | exact HB.out | apply below_alloc | apply pw_below_drewN | apply below_drew1 | refine below_set ?_ GE502.out | refine below_set ?_ GE503.out | refine below_set ?_ GE507.out | refine below_set ?_ GE510.out | refine below_set ?_ GE514.out | refine below_set ?_ GE518.out | refine below_set ?_ GE522.out | refine below_set ?_ GE526.out) | exact HB.out)) hb); have n9_ := Aside0.mk (hbox); have n10_ := Aside0.mk ((by rw [hg]; exact (below_size (by repeat (first | (with_reducible first | exact HB.out | apply below_alloc | apply pw_below_drewN | apply below_drew1 | refine below_set ?_ GE502.out | refine below_set ?_ GE503.out | refine below_set ?_ GE507.out | refine below_set ?_ GE510.out | refine below_set ?_ GE514.out | refine below_set ?_ GE518.out | refine below_set ?_ GE522.out | refine below_set ?_ GE526.out) | exact HB.out))) : w.heap.size ≤ gb530)); have n11_ := n10_; have n12_ := Aside0.mk ((by rw [hg]; exact Nat.ne_of_lt (blk_lt (g := gb502) (o := .cells #[.int .i64 a0_0, .int .i64 a0_1] 23 (0, 0)) (by (with_reducible repeat (first | refine blk_drewN ?_ _ | refine blk_drew ?_ | refine blk_alloc ?_ _)); exact BK502.out)) : gb502 ≠ gb530)); have n13_ := Aside0.mk n12_.out.symm; have n14_ := Aside0.mk ((by rw [hg]; exact Nat.ne_of_lt (blk_lt (g := gb503) (o := .cells #[.int .i64 a1_0, .int .i64 a1_1] 23 (0, 0)) (by (with_reducible repeat (first | refine blk_drewN ?_ _ | refine blk_drew ?_ | refine blk_alloc ?_ _)); exact BK503.out)) : gb503 ≠ gb530)); have n15_ := Aside0.mk n14_.out.symm; have n16_ := Aside0.mk ((by rw [hg]; exact Nat.ne_of_lt (blk_lt (g := gb507) (o := .cells #[.int .i64 t505, .int .i64 t506] 23 (0, 0)) (by (with_reducible repeat (first | refine blk_drewN ?_ _ | refine blk_drew ?_ | refine blk_alloc ?_ _)); exact BK507.out)) : gb507 ≠ gb530)); have n17_ := Aside0.mk n16_.out.symm; have n18_ := Aside0.mk ((by rw [hg]; exact Nat.ne_of_lt (blk_lt (g := gb510) (o := .cells #[.int .i64 t508, .int .i64 t509] 23 (0, 0)) (by (with_reducible repeat (first | refine blk_drewN ?_ _ | refine blk_drew ?_ | refine blk_alloc ?_ _)); exact BK510.out)) : gb510 ≠ gb530)); have n19_ := Aside0.mk n18_.out.symm; have n20_ := Aside0.mk ((by rw [hg]; exact Nat.ne_of_lt (blk_lt (g := gb514) (o := .cells #[.int .i64 t511, .int .i64 t512] 23 (0, 0)) (by (with_reducible repeat (first | refine blk_drewN ?_ _ | refine blk_drew ?_ | refine blk_alloc ?_ _)); exact BK514.out)) : gb514 ≠ gb530)); have n21_ := Aside0.mk n20_.out.symm; have n22_ := Aside0.mk ((by rw [hg]; exact Nat.ne_of_lt (blk_lt (g := gb518) (o := .cells #[.int .i64 t515, .int .i64 t516] 23 (0, 0)) (by (with_reducible repeat (first | refine blk_drewN ?_ _ | refine blk_drew ?_ | refine blk_alloc ?_ _)); exact BK518.out)) : gb518 ≠ gb530)); have n23_ := Aside0.mk n22_.out.symm; have n24_ := Aside0.mk ((by rw [hg]; exact Nat.ne_of_lt (blk_lt (g := gb522) (o := .cells #[.int .i64 t519, .int .i64 t520] 23 (0, 0)) (by (with_reducible repeat (first | refine blk_drewN ?_ _ | refine blk_drew ?_ | refine blk_alloc ?_ _)); exact BK522.out)) : gb522 ≠ gb530)); have n25_ := Aside0.mk n24_.out.symm; have n26_ := Aside0.mk ((by rw [hg]; exact Nat.ne_of_lt (blk_lt (g := gb526) (o := .cells #[.int .i64 t523, .int .i64 t524] 23 (0, 0)) (by (with_reducible repeat (first | refine blk_drewN ?_ _ | refine blk_drew ?_ | refine blk_alloc ?_ _)); exact BK526.out)) : gb526 ≠ gb530)); have n27_ := Aside0.mk n26_.out.symm; clear BK502; clear BK503; clear BK507; clear BK510; clear BK514; clear BK518; clear BK522; clear BK526; clear HB; have BK502 := n0_; have BK503 := n1_; have BK507 := n2_; have BK510 := n3_; have BK514 := n4_; have BK518 := n5_; have BK522 := n6_; have BK526 := n7_; have HB := n8_; have BK530 := n9_; have GW530 := n10_; have GE530 := n11_; have NB502_530 := n12_; have NB530_502 := n13_; have NB503_530 := n14_; have NB530_503 := n15_; have NB507_530 := n16_; have NB530_507 := n17_; have NB510_530 := n18_; have NB530_510 := n19_; have NB514_530 := n20_; have NB530_514 := n21_; have NB518_530 := n22_; have NB530_518 := n23_; have NB522_530 := n24_; have NB530_522 := n25_; have NB526_530 := n26_; have NB530_526 := n27_; clear n0_ n1_ n2_ n3_ n4_ n5_ n6_ n7_ n8_ n9_ n10_ n11_ n12_ n13_ n14_ n15_ n16_ n17_ n18_ n19_ n20_ n21_ n22_ n23_ n24_ n25_ n26_ n27_; clear hb hbox hg; have hnb73 := NB530_502.out; have hnc73 := NB502_530.out; have hnb74 := NB530_503.out; have hnc74 := NB503_530.out; have hnb75 := NB530_507.out; have hnc75 := NB507_530.out; have hnb76 := NB530_510.out; have hnc76 := NB510_530.out; have hnb77 := NB530_514.out; have hnc77 := NB514_530.out; have hnb78 := NB530_518.out; have hnc78 := NB518_530.out; have hnb79 := NB530_522.out; have hnc79 := NB522_530.out; have hnb80 := NB530_526.out; have hnc80 := NB526_530.out; have hcz81_0 : w72.cell? ⟨gb530, 0, none⟩ = some (.int .i64 0) := (blk_cell BK530.out 0).trans rfl; have hcz81_1 : w72.cell? ⟨gb530, 1, none⟩ = some (.int .i64 0) := (blk_cell BK530.out 1).trans rfl; have hfz81_0 := blk_frozen BK530.out 0; have hfz81_1 := blk_frozen BK530.out 1; have hcz82_0 : w72.cell? ⟨gb510, 0, none⟩ = some (.int .i64 t508) := (blk_cell BK510.out 0).trans rfl; have hcz82_1 : w72.cell? ⟨gb510, 1, none⟩ = some (.int .i64 t509) := (blk_cell BK510.out 1).trans rfl; have hfz82_0 := blk_frozen BK510.out 0; have hfz82_1 := blk_frozen BK510.out 1) | ((with_reducible refine gate_callee (f := 23) rfl ?_); refine goesL_ (some 60) rfl rfl Tryd.func23 (by kernel_rfl) rfl #[.agg #[.int .i64 t508, .int .i64 t509], .agg #[.int .i64 t508, .int .i64 t509]] rfl (by (try simp only [List.map_toArray, List.map_cons, List.map_nil]); first | done | rfl) ?_; (with_reducible refine (ratio_Div.calls k t508 t509 t508 t509 t531 t532 t533 _ A12.out).mono ?_); rintro e w83 ⟨rfl, hb⟩; refine ⟨_, rfl, ?_⟩; have n0_ := Aside0.mk (blk_below (g := gb502) (o := .cells #[.int .i64 a0_0, .int .i64 a0_1] 23 (0, 0)) (by (with_reducible repeat (first | refine blk_drewN ?_ _ | refine blk_drew ?_ | refine blk_alloc ?_ _)); refine blk_far ?_ NB502_530.out _; (with_reducible repeat (first | refine blk_drewN ?_ _ | refine blk_drew ?_ | refine blk_alloc ?_ _)); refine blk_far ?_ NB502_530.out _; (with_reducible repeat (first | refine blk_drewN ?_ _ | refine blk_drew ?_ | refine blk_alloc ?_ _)); exact BK502.out) hb); have n1_ := Aside0.mk (blk_below (g := gb503) (o := .cells #[.int .i64 a1_0, .int .i64 a1_1] 23 (0, 0)) (by (with_reducible repeat (first | refine blk_drewN ?_ _ | refine blk_drew ?_ | refine blk_alloc ?_ _)); refine blk_far ?_ NB503_530.out _; (with_reducible repeat (first | refine blk_drewN ?_ _ | refine blk_drew ?_ | refine blk_alloc ?_ _)); refine blk_far ?_ NB503_530.out _; (with_reducible repeat (first | refine blk_drewN ?_ _ | refine blk_drew ?_ | refine blk_alloc ?_ _)); exact BK503.out) hb); have n2_ := Aside0.mk (blk_below (g := gb507) (o := .cells #[.int .i64 t505, .int .i64 t506] 23 (0, 0)) (by (with_reducible repeat (first | refine blk_drewN ?_ _ | refine blk_drew ?_ | refine blk_alloc ?_ _)); refine blk_far ?_ NB507_530.out _; (with_reducible repeat (first | refine blk_drewN ?_ _ | refine blk_drew ?_ | refine blk_alloc ?_ _)); refine blk_far ?_ NB507_530.out _; (with_reducible repeat (first | refine blk_drewN ?_ _ | refine blk_drew ?_ | refine blk_alloc ?_ _)); exact BK507.out) hb); have n3_ := Aside0.mk (blk_below (g := gb510) (o := .cells #[.int .i64 t508, .int .i64 t509] 23 (0, 0)) (by (with_reducible repeat (first | refine blk_drewN ?_ _ | refine blk_drew ?_ | refine blk_alloc ?_ _)); refine blk_far ?_ NB510_530.out _; (with_reducible repeat (first | refine blk_drewN ?_ _ | refine blk_drew ?_ | refine blk_alloc ?_ _)); refine blk_far ?_ NB510_530.out _; (with_reducible repeat (first | refine blk_drewN ?_ _ | refine blk_drew ?_ | refine blk_alloc ?_ _)); exact BK510.out) hb); have n4_ := Aside0.mk (blk_below (g := gb514) (o := .cells #[.int .i64 t511, .int .i64 t512] 23 (0, 0)) (by (with_reducible repeat (first | refine blk_drewN ?_ _ | refine blk_drew ?_ | refine blk_alloc ?_ _)); refine blk_far ?_ NB514_530.out _; (with_reducible repeat (first | refine blk_drewN ?_ _ | refine blk_drew ?_ | refine blk_alloc ?_ _)); refine blk_far ?_ NB514_530.out _; (with_reducible repeat (first | refine blk_drewN ?_ _ | refine blk_drew ?_ | refine blk_alloc ?_ _)); exact BK514.out) hb); have n5_ := Aside0.mk (blk_below (g := gb518) (o := .cells #[.int .i64 t515, .int .i64 t516] 23 (0, 0)) (by (with_reducible repeat (first | refine blk_drewN ?_ _ | refine blk_drew ?_ | refine blk_alloc ?_ _)); refine blk_far ?_ NB518_530.out _; (with_reducible repeat (first | refine blk_drewN ?_ _ | refine blk_drew ?_ | refine blk_alloc ?_ _)); refine blk_far ?_ NB518_530.out _; (with_reducible repeat (first | refine blk_drewN ?_ _ | refine blk_drew ?_ | refine blk_alloc ?_ _)); exact BK518.out) hb); have n6_ := Aside0.mk (blk_below (g := gb522) (o := .cells #[.int .i64 t519, .int .i64 t520] 23 (0, 0)) (by (with_reducible repeat (first | refine blk_drewN ?_ _ | refine blk_drew ?_ | refine blk_alloc ?_ _)); refine blk_far ?_ NB522_530.out _; (with_reducible repeat (first | refine blk_drewN ?_ _ | refine blk_drew ?_ | refine blk_alloc ?_ _)); refine blk_far ?_ NB522_530.out _; (with_reducible repeat (first | refine blk_drewN ?_ _ | refine blk_drew ?_ | refine blk_alloc ?_ _)); exact BK522.out) hb); have n7_ := Aside0.mk (blk_below (g := gb526) (o := .cells #[.int .i64 t523, .int .i64 t524] 23 (0, 0)) (by (with_reducible repeat (first | refine blk_drewN ?_ _ | refine blk_drew ?_ | refine blk_alloc ?_ _)); refine blk_far ?_ NB526_530.out _; (with_reducible repeat (first | refine blk_drewN ?_ _ | refine blk_drew ?_ | refine blk_alloc ?_ _)); refine blk_far ?_ NB526_530.out _; (with_reducible repeat (first | refine blk_drewN ?_ _ | refine blk_drew ?_ | refine blk_alloc ?_ _)); exact BK526.out) hb); have n8_ := Aside0.mk (blk_below (g := gb530) (o := .cells #[.int .i64 t527, .int .i64 t528] 23 (0, 0)) (by (with_reducible repeat (first | refine blk_drewN ?_ _ | refine blk_drew ?_ | refine blk_alloc ?_ _)); refine blk_put (cs := #[.int .i64 t527, .int .i64 0]) ?_ 1 _ rfl; (with_reducible repeat (first | refine blk_drewN ?_ _ | refine blk_drew ?_ | refine blk_alloc ?_ _)); refine blk_put (cs := #[.int .i64 0, .int .i64 0]) ?_ 0 _ rfl; (with_reducible repeat (first | refine blk_drewN ?_ _ | refine blk_drew ?_ | refine blk_alloc ?_ _)); exact BK530.out) hb); have n9_ := Aside0.mk (below_step (by repeat (first | (with_reducible first | exact HB.out | apply below_alloc | apply pw_below_drewN | apply below_drew1 | refine below_set ?_ GE502.out | refine below_set ?_ GE503.out | refine below_set ?_ GE507.out | refine below_set ?_ GE510.out | refine below_set ?_ GE514.out | refine below_set ?_ GE518.out | refine below_set ?_ GE522.out | refine below_set ?_ GE526.out | refine below_set ?_ GE530.out) | exact HB.out)) hb); clear BK502; clear BK503; clear BK507; clear BK510; clear BK514; clear BK518; clear BK522; clear BK526; clear BK530; clear HB; have BK502 := n0_; have BK503 := n1_; have BK507 := n2_; have BK510 := n3_; have BK514 := n4_; have BK518 := n5_; have BK522 := n6_; have BK526 := n7_; have BK530 := n8_; have HB := n9_; clear n0_ n1_ n2_ n3_ n4_ n5_ n6_ n7_ n8_ n9_; (try clear hb); (try clear hb2); (try clear hk); (try clear hi)) | ((with_reducible refine gate_dst (N := 18) rfl ?_); refine box_event ?hg (N := 18) ?hd (cs := #[.int .i64 0, .int .i64 0]) (t := 23) ?hr ?_; (case hd => rfl); (case hg => rfl); (case hr => first | (go_simp; done) | (go_simp; rfl)); intro gb534 hg w84 hbox hb; have n0_ := Aside0.mk (blk_below (g := gb502) (o := .cells #[.int .i64 a0_0, .int .i64 a0_1] 23 (0, 0)) (by (with_reducible repeat (first | refine blk_drewN ?_ _ | refine blk_drew ?_ | refine blk_alloc ?_ _)); exact BK502.out) hb); have n1_ := Aside0.mk (blk_below (g := gb503) (o := .cells #[.int .i64 a1_0, .int .i64 a1_1] 23 (0, 0)) (by (with_reducible repeat (first | refine blk_drewN ?_ _ | refine blk_drew ?_ | refine blk_alloc ?_ _)); exact BK503.out) hb); have n2_ := Aside0.mk (blk_below (g := gb507) (o := .cells #[.int .i64 t505, .int .i64 t506] 23 (0, 0)) (by (with_reducible repeat (first | refine blk_drewN ?_ _ | refine blk_drew ?_ | refine blk_alloc ?_ _)); exact BK507.out) hb); have n3_ := Aside0.mk (blk_below (g := gb510) (o := .cells #[.int .i64 t508, .int .i64 t509] 23 (0, 0)) (by (with_reducible repeat (first | refine blk_drewN ?_ _ | refine blk_drew ?_ | refine blk_alloc ?_ _)); exact BK510.out) hb); have n4_ := Aside0.mk (blk_below (g := gb514) (o := .cells #[.int .i64 t511, .int .i64 t512] 23 (0, 0)) (by (with_reducible repeat (first | refine blk_drewN ?_ _ | refine blk_drew ?_ | refine blk_alloc ?_ _)); exact BK514.out) hb); have n5_ := Aside0.mk (blk_below (g := gb518) (o := .cells #[.int .i64 t515, .int .i64 t516] 23 (0, 0)) (by (with_reducible repeat (first | refine blk_drewN ?_ _ | refine blk_drew ?_ | refine blk_alloc ?_ _)); exact BK518.out) hb); have n6_ := Aside0.mk (blk_below (g := gb522) (o := .cells #[.int .i64 t519, .int .i64 t520] 23 (0, 0)) (by (with_reducible repeat (first | refine blk_drewN ?_ _ | refine blk_drew ?_ | refine blk_alloc ?_ _)); exact BK522.out) hb); have n7_ := Aside0.mk (blk_below (g := gb526) (o := .cells #[.int .i64 t523, .int .i64 t524] 23 (0, 0)) (by (with_reducible repeat (first | refine blk_drewN ?_ _ | refine blk_drew ?_ | refine blk_alloc ?_ _)); exact BK526.out) hb); have n8_ := Aside0.mk (blk_below (g := gb530) (o := .cells #[.int .i64 t527, .int .i64 t528] 23 (0, 0)) (by (with_reducible repeat (first | refine blk_drewN ?_ _ | refine blk_drew ?_ | refine blk_alloc ?_ _)); exact BK530.out) hb); have n9_ := Aside0.mk (below_step (by repeat (first | (with_reducible first | exact HB.out | apply below_alloc | apply pw_below_drewN | apply below_drew1 | refine below_set ?_ GE502.out | refine below_set ?_ GE503.out | refine below_set ?_ GE507.out | refine below_set ?_ GE510.out | refine below_set ?_ GE514.out | refine below_set ?_ GE518.out | refine below_set ?_ GE522.out | refine below_set ?_ GE526.out | refine below_set ?_ GE530.out) | exact HB.out)) hb); have n10_ := Aside0.mk (hbox); have n11_ := Aside0.mk ((by rw [hg]; exact (below_size (by repeat (first | (with_reducible first | exact HB.out | apply below_alloc | apply pw_below_drewN | apply below_drew1 | refine below_set ?_ GE502.out | refine below_set ?_ GE503.out | refine below_set ?_ GE507.out | refine below_set ?_ GE510.out | refine below_set ?_ GE514.out | refine below_set ?_ GE518.out | refine below_set ?_ GE522.out | refine below_set ?_ GE526.out | refine below_set ?_ GE530.out) | exact HB.out))) : w.heap.size ≤ gb534)); have n12_ := n11_; have n13_ := Aside0.mk ((by rw [hg]; exact Nat.ne_of_lt (blk_lt (g := gb502) (o := .cells #[.int .i64 a0_0, .int .i64 a0_1] 23 (0, 0)) (by (with_reducible repeat (first | refine blk_drewN ?_ _ | refine blk_drew ?_ | refine blk_alloc ?_ _)); exact BK502.out)) : gb502 ≠ gb534)); have n14_ := Aside0.mk n13_.out.symm; have n15_ := Aside0.mk ((by rw [hg]; exact Nat.ne_of_lt (blk_lt (g := gb503) (o := .cells #[.int .i64 a1_0, .int .i64 a1_1] 23 (0, 0)) (by (with_reducible repeat (first | refine blk_drewN ?_ _ | refine blk_drew ?_ | refine blk_alloc ?_ _)); exact BK503.out)) : gb503 ≠ gb534)); have n16_ := Aside0.mk n15_.out.symm; have n17_ := Aside0.mk ((by rw [hg]; exact Nat.ne_of_lt (blk_lt (g := gb507) (o := .cells #[.int .i64 t505, .int .i64 t506] 23 (0, 0)) (by (with_reducible repeat (first | refine blk_drewN ?_ _ | refine blk_drew ?_ | refine blk_alloc ?_ _)); exact BK507.out)) : gb507 ≠ gb534)); have n18_ := Aside0.mk n17_.out.symm; have n19_ := Aside0.mk ((by rw [hg]; exact Nat.ne_of_lt (blk_lt (g := gb510) (o := .cells #[.int .i64 t508, .int .i64 t509] 23 (0, 0)) (by (with_reducible repeat (first | refine blk_drewN ?_ _ | refine blk_drew ?_ | refine blk_alloc ?_ _)); exact BK510.out)) : gb510 ≠ gb534)); have n20_ := Aside0.mk n19_.out.symm; have n21_ := Aside0.mk ((by rw [hg]; exact Nat.ne_of_lt (blk_lt (g := gb514) (o := .cells #[.int .i64 t511, .int .i64 t512] 23 (0, 0)) (by (with_reducible repeat (first | refine blk_drewN ?_ _ | refine blk_drew ?_ | refine blk_alloc ?_ _)); exact BK514.out)) : gb514 ≠ gb534)); have n22_ := Aside0.mk n21_.out.symm; have n23_ := Aside0.mk ((by rw [hg]; exact Nat.ne_of_lt (blk_lt (g := gb518) (o := .cells #[.int .i64 t515, .int .i64 t516] 23 (0, 0)) (by (with_reducible repeat (first | refine blk_drewN ?_ _ | refine blk_drew ?_ | refine blk_alloc ?_ _)); exact BK518.out)) : gb518 ≠ gb534)); have n24_ := Aside0.mk n23_.out.symm; have n25_ := Aside0.mk ((by rw [hg]; exact Nat.ne_of_lt (blk_lt (g := gb522) (o := .cells #[.int .i64 t519, .int .i64 t520] 23 (0, 0)) (by (with_reducible repeat (first | refine blk_drewN ?_ _ | refine blk_drew ?_ | refine blk_alloc ?_ _)); exact BK522.out)) : gb522 ≠ gb534)); have n26_ := Aside0.mk n25_.out.symm; have n27_ := Aside0.mk ((by rw [hg]; exact Nat.ne_of_lt (blk_lt (g := gb526) (o := .cells #[.int .i64 t523, .int .i64 t524] 23 (0, 0)) (by (with_reducible repeat (first | refine blk_drewN ?_ _ | refine blk_drew ?_ | refine blk_alloc ?_ _)); exact BK526.out)) : gb526 ≠ gb534)); have n28_ := Aside0.mk n27_.out.symm; have n29_ := Aside0.mk ((by rw [hg]; exact Nat.ne_of_lt (blk_lt (g := gb530) (o := .cells #[.int .i64 t527, .int .i64 t528] 23 (0, 0)) (by (with_reducible repeat (first | refine blk_drewN ?_ _ | refine blk_drew ?_ | refine blk_alloc ?_ _)); exact BK530.out)) : gb530 ≠ gb534)); have n30_ := Aside0.mk n29_.out.symm; clear BK502; clear BK503; clear BK507; clear BK510; clear BK514; clear BK518; clear BK522; clear BK526; clear BK530; clear HB; have BK502 := n0_; have BK503 := n1_; have BK507 := n2_; have BK510 := n3_; have BK514 := n4_; have BK518 := n5_; have BK522 := n6_; have BK526 := n7_; have BK530 := n8_; have HB := n9_; have BK534 := n10_; have GW534 := n11_; have GE534 := n12_; have NB502_534 := n13_; have NB534_502 := n14_; have NB503_534 := n15_; have NB534_503 := n16_; have NB507_534 := n17_; have NB534_507 := n18_; have NB510_534 := n19_; have NB534_510 := n20_; have NB514_534 := n21_; have NB534_514 := n22_; have NB518_534 := n23_; have NB534_518 := n24_; have NB522_534 := n25_; have NB534_522 := n26_; have NB526_534 := n27_; have NB534_526 := n28_; have NB530_534 := n29_; have NB534_530 := n30_; clear n0_ n1_ n2_ n3_ n4_ n5_ n6_ n7_ n8_ n9_ n10_ n11_ n12_ n13_ n14_ n15_ n16_ n17_ n18_ n19_ n20_ n21_ n22_ n23_ n24_ n25_ n26_ n27_ n28_ n29_ n30_; clear hb hbox hg; have hnb85 := NB534_502.out; have hnc85 := NB502_534.out; have hnb86 := NB534_503.out; have hnc86 := NB503_534.out; have hnb87 := NB534_507.out; have hnc87 := NB507_534.out; have hnb88 := NB534_510.out; have hnc88 := NB510_534.out; have hnb89 := NB534_514.out; have hnc89 := NB514_534.out; have hnb90 := NB534_518.out; have hnc90 := NB518_534.out; have hnb91 := NB534_522.out; have hnc91 := NB522_534.out; have hnb92 := NB534_526.out; have hnc92 := NB526_534.out; have hnb93 := NB534_530.out; have hnc93 := NB530_534.out; have hcz94_0 : w84.cell? ⟨gb534, 0, none⟩ = some (.int .i64 0) := (blk_cell BK534.out 0).trans rfl; have hcz94_1 : w84.cell? ⟨gb534, 1, none⟩ = some (.int .i64 0) := (blk_cell BK534.out 1).trans rfl; have hfz94_0 := blk_frozen BK534.out 0; have hfz94_1 := blk_frozen BK534.out 1))
    (try simp only [Act.put, List.setIfInBounds_toArray, List.set_cons_zero, List.set_cons_succ])
    go_cut [82] (fun v82 wc => ∃ (kq : Nat) (x82_12 : Bool), v82 = .bool x82_12 ∧ Aside0 (partitalaw01_RatioBack.j0 kq true t521 t525 t533 x82_12 t505 t506 t508 t509 t523 t524 t531 t532 = some r) ∧ Aside0 (kq ≤ k) ∧ Aside0 (wc.heap[gb502]? = some (.cells #[.int .i64 a0_0, .int .i64 a0_1] 23 (0, 0))) ∧ Aside0 (wc.heap[gb503]? = some (.cells #[.int .i64 a1_0, .int .i64 a1_1] 23 (0, 0))) ∧ Aside0 (wc.heap[gb507]? = some (.cells #[.int .i64 t505, .int .i64 t506] 23 (0, 0))) ∧ Aside0 (wc.heap[gb510]? = some (.cells #[.int .i64 t508, .int .i64 t509] 23 (0, 0))) ∧ Aside0 (wc.heap[gb514]? = some (.cells #[.int .i64 t511, .int .i64 t512] 23 (0, 0))) ∧ Aside0 (wc.heap[gb518]? = some (.cells #[.int .i64 t515, .int .i64 t516] 23 (0, 0))) ∧ Aside0 (wc.heap[gb522]? = some (.cells #[.int .i64 t519, .int .i64 t520] 23 (0, 0))) ∧ Aside0 (wc.heap[gb526]? = some (.cells #[.int .i64 t523, .int .i64 t524] 23 (0, 0))) ∧ Aside0 (wc.heap[gb530]? = some (.cells #[.int .i64 t527, .int .i64 t528] 23 (0, 0))) ∧ Aside0 (wc.heap[gb534]? = some (.cells #[.int .i64 t531, .int .i64 t532] 23 (0, 0))) ∧ Aside0 (Below w.heap.size w wc))
    case first =>
      have H := HC13.out
      clear HC13
      by_cases c95 : t513 = 0
      · rw [if_pos c95] at H
        have c95b0 : (t513 == 0) = true := beq_iff_eq.mpr c95
        have c95b1 : (t513 != 0) = false := bne_eq_false_iff_eq.mpr c95
        clear c95
        (first | rw [c95b0] | (simp only [i64_w, i32_w]; rw [c95b0]) | skip)
        by_cases c96 : t517 = 0
        · rw [if_pos c96] at H
          have c96b0 : (t517 == 0) = true := beq_iff_eq.mpr c96
          have c96b1 : (t517 != 0) = false := bne_eq_false_iff_eq.mpr c96
          clear c96
          by_cases c97 : (!(t515 == t505) || (!(t516 == t506))) = true
          · rw [if_pos c97] at H
            have c97b0 : (!(t515 == t505) || (!(t516 == t506))) = true := c97
            clear c97
            have H' := Aside0.mk H
            clear H
            have hnb98 := NB518_502.out
            have hnc98 := NB502_518.out
            have hnb99 := NB518_503.out
            have hnc99 := NB503_518.out
            have hnb100 := NB518_507.out
            have hnc100 := NB507_518.out
            have hnb101 := NB518_510.out
            have hnc101 := NB510_518.out
            have hnb102 := NB518_514.out
            have hnc102 := NB514_518.out
            have hnb103 := NB518_522.out
            have hnc103 := NB522_518.out
            have hnb104 := NB518_526.out
            have hnc104 := NB526_518.out
            have hnb105 := NB518_530.out
            have hnc105 := NB530_518.out
            have hnb106 := NB518_534.out
            have hnc106 := NB534_518.out
            have hcz107_0 : w84.cell? ⟨gb518, 0, none⟩ = some (.int .i64 t515) := (blk_cell BK518.out 0).trans rfl
            have hcz107_1 : w84.cell? ⟨gb518, 1, none⟩ = some (.int .i64 t516) := (blk_cell BK518.out 1).trans rfl
            have hfz107_0 := blk_frozen BK518.out 0
            have hfz107_1 := blk_frozen BK518.out 1
            have hnb108 := NB507_502.out
            have hnc108 := NB502_507.out
            have hnb109 := NB507_503.out
            have hnc109 := NB503_507.out
            have hnb110 := NB507_510.out
            have hnc110 := NB510_507.out
            have hnb111 := NB507_514.out
            have hnc111 := NB514_507.out
            have hnb112 := NB507_522.out
            have hnc112 := NB522_507.out
            have hnb113 := NB507_526.out
            have hnc113 := NB526_507.out
            have hnb114 := NB507_530.out
            have hnc114 := NB530_507.out
            have hnb115 := NB507_534.out
            have hnc115 := NB534_507.out
            have hcz116_0 : w84.cell? ⟨gb507, 0, none⟩ = some (.int .i64 t505) := (blk_cell BK507.out 0).trans rfl
            have hcz116_1 : w84.cell? ⟨gb507, 1, none⟩ = some (.int .i64 t506) := (blk_cell BK507.out 1).trans rfl
            have hfz116_0 := blk_frozen BK507.out 0
            have hfz116_1 := blk_frozen BK507.out 1
            go_wp2
            go_meet
            case rel => exact ⟨_, (true), (by first | rfl | (simp; done) | (simp [*]; done)), H', ⟨by first | omega | exact Nat.le_refl _⟩, ⟨by (with_reducible repeat (first | refine blk_drewN ?_ _ | refine blk_drew ?_ | refine blk_alloc ?_ _)); refine blk_far ?_ NB502_534.out _; (with_reducible repeat (first | refine blk_drewN ?_ _ | refine blk_drew ?_ | refine blk_alloc ?_ _)); refine blk_far ?_ NB502_534.out _; (with_reducible repeat (first | refine blk_drewN ?_ _ | refine blk_drew ?_ | refine blk_alloc ?_ _)); exact BK502.out⟩, ⟨by (with_reducible repeat (first | refine blk_drewN ?_ _ | refine blk_drew ?_ | refine blk_alloc ?_ _)); refine blk_far ?_ NB503_534.out _; (with_reducible repeat (first | refine blk_drewN ?_ _ | refine blk_drew ?_ | refine blk_alloc ?_ _)); refine blk_far ?_ NB503_534.out _; (with_reducible repeat (first | refine blk_drewN ?_ _ | refine blk_drew ?_ | refine blk_alloc ?_ _)); exact BK503.out⟩, ⟨by (with_reducible repeat (first | refine blk_drewN ?_ _ | refine blk_drew ?_ | refine blk_alloc ?_ _)); refine blk_far ?_ NB507_534.out _; (with_reducible repeat (first | refine blk_drewN ?_ _ | refine blk_drew ?_ | refine blk_alloc ?_ _)); refine blk_far ?_ NB507_534.out _; (with_reducible repeat (first | refine blk_drewN ?_ _ | refine blk_drew ?_ | refine blk_alloc ?_ _)); exact BK507.out⟩, ⟨by (with_reducible repeat (first | refine blk_drewN ?_ _ | refine blk_drew ?_ | refine blk_alloc ?_ _)); refine blk_far ?_ NB510_534.out _; (with_reducible repeat (first | refine blk_drewN ?_ _ | refine blk_drew ?_ | refine blk_alloc ?_ _)); refine blk_far ?_ NB510_534.out _; (with_reducible repeat (first | refine blk_drewN ?_ _ | refine blk_drew ?_ | refine blk_alloc ?_ _)); exact BK510.out⟩, ⟨by (with_reducible repeat (first | refine blk_drewN ?_ _ | refine blk_drew ?_ | refine blk_alloc ?_ _)); refine blk_far ?_ NB514_534.out _; (with_reducible repeat (first | refine blk_drewN ?_ _ | refine blk_drew ?_ | refine blk_alloc ?_ _)); refine blk_far ?_ NB514_534.out _; (with_reducible repeat (first | refine blk_drewN ?_ _ | refine blk_drew ?_ | refine blk_alloc ?_ _)); exact BK514.out⟩, ⟨by (with_reducible repeat (first | refine blk_drewN ?_ _ | refine blk_drew ?_ | refine blk_alloc ?_ _)); refine blk_far ?_ NB518_534.out _; (with_reducible repeat (first | refine blk_drewN ?_ _ | refine blk_drew ?_ | refine blk_alloc ?_ _)); refine blk_far ?_ NB518_534.out _; (with_reducible repeat (first | refine blk_drewN ?_ _ | refine blk_drew ?_ | refine blk_alloc ?_ _)); exact BK518.out⟩, ⟨by (with_reducible repeat (first | refine blk_drewN ?_ _ | refine blk_drew ?_ | refine blk_alloc ?_ _)); refine blk_far ?_ NB522_534.out _; (with_reducible repeat (first | refine blk_drewN ?_ _ | refine blk_drew ?_ | refine blk_alloc ?_ _)); refine blk_far ?_ NB522_534.out _; (with_reducible repeat (first | refine blk_drewN ?_ _ | refine blk_drew ?_ | refine blk_alloc ?_ _)); exact BK522.out⟩, ⟨by (with_reducible repeat (first | refine blk_drewN ?_ _ | refine blk_drew ?_ | refine blk_alloc ?_ _)); refine blk_far ?_ NB526_534.out _; (with_reducible repeat (first | refine blk_drewN ?_ _ | refine blk_drew ?_ | refine blk_alloc ?_ _)); refine blk_far ?_ NB526_534.out _; (with_reducible repeat (first | refine blk_drewN ?_ _ | refine blk_drew ?_ | refine blk_alloc ?_ _)); exact BK526.out⟩, ⟨by (with_reducible repeat (first | refine blk_drewN ?_ _ | refine blk_drew ?_ | refine blk_alloc ?_ _)); refine blk_far ?_ NB530_534.out _; (with_reducible repeat (first | refine blk_drewN ?_ _ | refine blk_drew ?_ | refine blk_alloc ?_ _)); refine blk_far ?_ NB530_534.out _; (with_reducible repeat (first | refine blk_drewN ?_ _ | refine blk_drew ?_ | refine blk_alloc ?_ _)); exact BK530.out⟩, ⟨by (with_reducible repeat (first | refine blk_drewN ?_ _ | refine blk_drew ?_ | refine blk_alloc ?_ _)); refine blk_put (cs := #[.int .i64 t531, .int .i64 0]) ?_ 1 _ rfl; (with_reducible repeat (first | refine blk_drewN ?_ _ | refine blk_drew ?_ | refine blk_alloc ?_ _)); refine blk_put (cs := #[.int .i64 0, .int .i64 0]) ?_ 0 _ rfl; (with_reducible repeat (first | refine blk_drewN ?_ _ | refine blk_drew ?_ | refine blk_alloc ?_ _)); exact BK534.out⟩, ⟨by repeat (first | (with_reducible first | exact HB.out | apply below_alloc | apply pw_below_drewN | apply below_drew1 | refine below_set ?_ GE502.out | refine below_set ?_ GE503.out | refine below_set ?_ GE507.out | refine below_set ?_ GE510.out | refine below_set ?_ GE514.out | refine below_set ?_ GE518.out | refine below_set ?_ GE522.out | refine below_set ?_ GE526.out | refine below_set ?_ GE530.out | refine below_set ?_ GE534.out) | exact HB.out)⟩⟩
          · rw [if_neg c97] at H
            have c97b0 : (!(t515 == t505) || (!(t516 == t506))) = false := by simpa using c97
            clear c97
            by_cases c117 : t529 = 0
            · rw [if_pos c117] at H
              have c117b0 : (t529 == 0) = true := beq_iff_eq.mpr c117
              have c117b1 : (t529 != 0) = false := bne_eq_false_iff_eq.mpr c117
              clear c117
              have H' := Aside0.mk H
              clear H
              have hnb118 := NB518_502.out
              have hnc118 := NB502_518.out
              have hnb119 := NB518_503.out
              have hnc119 := NB503_518.out
              have hnb120 := NB518_507.out
              have hnc120 := NB507_518.out
              have hnb121 := NB518_510.out
              have hnc121 := NB510_518.out
              have hnb122 := NB518_514.out
              have hnc122 := NB514_518.out
              have hnb123 := NB518_522.out
              have hnc123 := NB522_518.out
              have hnb124 := NB518_526.out
              have hnc124 := NB526_518.out
              have hnb125 := NB518_530.out
              have hnc125 := NB530_518.out
              have hnb126 := NB518_534.out
              have hnc126 := NB534_518.out
              have hcz127_0 : w84.cell? ⟨gb518, 0, none⟩ = some (.int .i64 t515) := (blk_cell BK518.out 0).trans rfl
              have hcz127_1 : w84.cell? ⟨gb518, 1, none⟩ = some (.int .i64 t516) := (blk_cell BK518.out 1).trans rfl
              have hfz127_0 := blk_frozen BK518.out 0
              have hfz127_1 := blk_frozen BK518.out 1
              have hnb128 := NB507_502.out
              have hnc128 := NB502_507.out
              have hnb129 := NB507_503.out
              have hnc129 := NB503_507.out
              have hnb130 := NB507_510.out
              have hnc130 := NB510_507.out
              have hnb131 := NB507_514.out
              have hnc131 := NB514_507.out
              have hnb132 := NB507_522.out
              have hnc132 := NB522_507.out
              have hnb133 := NB507_526.out
              have hnc133 := NB526_507.out
              have hnb134 := NB507_530.out
              have hnc134 := NB530_507.out
              have hnb135 := NB507_534.out
              have hnc135 := NB534_507.out
              have hcz136_0 : w84.cell? ⟨gb507, 0, none⟩ = some (.int .i64 t505) := (blk_cell BK507.out 0).trans rfl
              have hcz136_1 : w84.cell? ⟨gb507, 1, none⟩ = some (.int .i64 t506) := (blk_cell BK507.out 1).trans rfl
              have hfz136_0 := blk_frozen BK507.out 0
              have hfz136_1 := blk_frozen BK507.out 1
              have hnb137 := NB530_502.out
              have hnc137 := NB502_530.out
              have hnb138 := NB530_503.out
              have hnc138 := NB503_530.out
              have hnb139 := NB530_510.out
              have hnc139 := NB510_530.out
              have hnb140 := NB530_514.out
              have hnc140 := NB514_530.out
              have hnb141 := NB530_522.out
              have hnc141 := NB522_530.out
              have hnb142 := NB530_526.out
              have hnc142 := NB526_530.out
              have hnb143 := NB530_534.out
              have hnc143 := NB534_530.out
              have hcz144_0 : w84.cell? ⟨gb530, 0, none⟩ = some (.int .i64 t527) := (blk_cell BK530.out 0).trans rfl
              have hcz144_1 : w84.cell? ⟨gb530, 1, none⟩ = some (.int .i64 t528) := (blk_cell BK530.out 1).trans rfl
              have hfz144_0 := blk_frozen BK530.out 0
              have hfz144_1 := blk_frozen BK530.out 1
              go_wp2
              go_meet
              case rel => exact ⟨_, ((!(t527 == 0) || (!(t528 == 1)))), (by first | rfl | (simp; done) | (simp [*]; done)), H', ⟨by first | omega | exact Nat.le_refl _⟩, ⟨by (with_reducible repeat (first | refine blk_drewN ?_ _ | refine blk_drew ?_ | refine blk_alloc ?_ _)); refine blk_far ?_ NB502_534.out _; (with_reducible repeat (first | refine blk_drewN ?_ _ | refine blk_drew ?_ | refine blk_alloc ?_ _)); refine blk_far ?_ NB502_534.out _; (with_reducible repeat (first | refine blk_drewN ?_ _ | refine blk_drew ?_ | refine blk_alloc ?_ _)); exact BK502.out⟩, ⟨by (with_reducible repeat (first | refine blk_drewN ?_ _ | refine blk_drew ?_ | refine blk_alloc ?_ _)); refine blk_far ?_ NB503_534.out _; (with_reducible repeat (first | refine blk_drewN ?_ _ | refine blk_drew ?_ | refine blk_alloc ?_ _)); refine blk_far ?_ NB503_534.out _; (with_reducible repeat (first | refine blk_drewN ?_ _ | refine blk_drew ?_ | refine blk_alloc ?_ _)); exact BK503.out⟩, ⟨by (with_reducible repeat (first | refine blk_drewN ?_ _ | refine blk_drew ?_ | refine blk_alloc ?_ _)); refine blk_far ?_ NB507_534.out _; (with_reducible repeat (first | refine blk_drewN ?_ _ | refine blk_drew ?_ | refine blk_alloc ?_ _)); refine blk_far ?_ NB507_534.out _; (with_reducible repeat (first | refine blk_drewN ?_ _ | refine blk_drew ?_ | refine blk_alloc ?_ _)); exact BK507.out⟩, ⟨by (with_reducible repeat (first | refine blk_drewN ?_ _ | refine blk_drew ?_ | refine blk_alloc ?_ _)); refine blk_far ?_ NB510_534.out _; (with_reducible repeat (first | refine blk_drewN ?_ _ | refine blk_drew ?_ | refine blk_alloc ?_ _)); refine blk_far ?_ NB510_534.out _; (with_reducible repeat (first | refine blk_drewN ?_ _ | refine blk_drew ?_ | refine blk_alloc ?_ _)); exact BK510.out⟩, ⟨by (with_reducible repeat (first | refine blk_drewN ?_ _ | refine blk_drew ?_ | refine blk_alloc ?_ _)); refine blk_far ?_ NB514_534.out _; (with_reducible repeat (first | refine blk_drewN ?_ _ | refine blk_drew ?_ | refine blk_alloc ?_ _)); refine blk_far ?_ NB514_534.out _; (with_reducible repeat (first | refine blk_drewN ?_ _ | refine blk_drew ?_ | refine blk_alloc ?_ _)); exact BK514.out⟩, ⟨by (with_reducible repeat (first | refine blk_drewN ?_ _ | refine blk_drew ?_ | refine blk_alloc ?_ _)); refine blk_far ?_ NB518_534.out _; (with_reducible repeat (first | refine blk_drewN ?_ _ | refine blk_drew ?_ | refine blk_alloc ?_ _)); refine blk_far ?_ NB518_534.out _; (with_reducible repeat (first | refine blk_drewN ?_ _ | refine blk_drew ?_ | refine blk_alloc ?_ _)); exact BK518.out⟩, ⟨by (with_reducible repeat (first | refine blk_drewN ?_ _ | refine blk_drew ?_ | refine blk_alloc ?_ _)); refine blk_far ?_ NB522_534.out _; (with_reducible repeat (first | refine blk_drewN ?_ _ | refine blk_drew ?_ | refine blk_alloc ?_ _)); refine blk_far ?_ NB522_534.out _; (with_reducible repeat (first | refine blk_drewN ?_ _ | refine blk_drew ?_ | refine blk_alloc ?_ _)); exact BK522.out⟩, ⟨by (with_reducible repeat (first | refine blk_drewN ?_ _ | refine blk_drew ?_ | refine blk_alloc ?_ _)); refine blk_far ?_ NB526_534.out _; (with_reducible repeat (first | refine blk_drewN ?_ _ | refine blk_drew ?_ | refine blk_alloc ?_ _)); refine blk_far ?_ NB526_534.out _; (with_reducible repeat (first | refine blk_drewN ?_ _ | refine blk_drew ?_ | refine blk_alloc ?_ _)); exact BK526.out⟩, ⟨by (with_reducible repeat (first | refine blk_drewN ?_ _ | refine blk_drew ?_ | refine blk_alloc ?_ _)); refine blk_far ?_ NB530_534.out _; (with_reducible repeat (first | refine blk_drewN ?_ _ | refine blk_drew ?_ | refine blk_alloc ?_ _)); refine blk_far ?_ NB530_534.out _; (with_reducible repeat (first | refine blk_drewN ?_ _ | refine blk_drew ?_ | refine blk_alloc ?_ _)); exact BK530.out⟩, ⟨by (with_reducible repeat (first | refine blk_drewN ?_ _ | refine blk_drew ?_ | refine blk_alloc ?_ _)); refine blk_put (cs := #[.int .i64 t531, .int .i64 0]) ?_ 1 _ rfl; (with_reducible repeat (first | refine blk_drewN ?_ _ | refine blk_drew ?_ | refine blk_alloc ?_ _)); refine blk_put (cs := #[.int .i64 0, .int .i64 0]) ?_ 0 _ rfl; (with_reducible repeat (first | refine blk_drewN ?_ _ | refine blk_drew ?_ | refine blk_alloc ?_ _)); exact BK534.out⟩, ⟨by repeat (first | (with_reducible first | exact HB.out | apply below_alloc | apply pw_below_drewN | apply below_drew1 | refine below_set ?_ GE502.out | refine below_set ?_ GE503.out | refine below_set ?_ GE507.out | refine below_set ?_ GE510.out | refine below_set ?_ GE514.out | refine below_set ?_ GE518.out | refine below_set ?_ GE522.out | refine below_set ?_ GE526.out | refine below_set ?_ GE530.out | refine below_set ?_ GE534.out) | exact HB.out)⟩⟩
            · rw [if_neg c117] at H
              have c117b0 : (t529 == 0) = false := beq_eq_false_iff_ne.mpr c117
              have c117b1 : (t529 != 0) = true := bne_iff_ne.mpr c117
              have H' := Aside0.mk H
              clear H
              have hnb145 := NB518_502.out
              have hnc145 := NB502_518.out
              have hnb146 := NB518_503.out
              have hnc146 := NB503_518.out
              have hnb147 := NB518_507.out
              have hnc147 := NB507_518.out
              have hnb148 := NB518_510.out
              have hnc148 := NB510_518.out
              have hnb149 := NB518_514.out
              have hnc149 := NB514_518.out
              have hnb150 := NB518_522.out
              have hnc150 := NB522_518.out
              have hnb151 := NB518_526.out
              have hnc151 := NB526_518.out
              have hnb152 := NB518_530.out
              have hnc152 := NB530_518.out
              have hnb153 := NB518_534.out
              have hnc153 := NB534_518.out
              have hcz154_0 : w84.cell? ⟨gb518, 0, none⟩ = some (.int .i64 t515) := (blk_cell BK518.out 0).trans rfl
              have hcz154_1 : w84.cell? ⟨gb518, 1, none⟩ = some (.int .i64 t516) := (blk_cell BK518.out 1).trans rfl
              have hfz154_0 := blk_frozen BK518.out 0
              have hfz154_1 := blk_frozen BK518.out 1
              have hnb155 := NB507_502.out
              have hnc155 := NB502_507.out
              have hnb156 := NB507_503.out
              have hnc156 := NB503_507.out
              have hnb157 := NB507_510.out
              have hnc157 := NB510_507.out
              have hnb158 := NB507_514.out
              have hnc158 := NB514_507.out
              have hnb159 := NB507_522.out
              have hnc159 := NB522_507.out
              have hnb160 := NB507_526.out
              have hnc160 := NB526_507.out
              have hnb161 := NB507_530.out
              have hnc161 := NB530_507.out
              have hnb162 := NB507_534.out
              have hnc162 := NB534_507.out
              have hcz163_0 : w84.cell? ⟨gb507, 0, none⟩ = some (.int .i64 t505) := (blk_cell BK507.out 0).trans rfl
              have hcz163_1 : w84.cell? ⟨gb507, 1, none⟩ = some (.int .i64 t506) := (blk_cell BK507.out 1).trans rfl
              have hfz163_0 := blk_frozen BK507.out 0
              have hfz163_1 := blk_frozen BK507.out 1
              go_wp2
              go_meet
              case rel => exact ⟨_, (true), (by first | rfl | (simp; done) | (simp [*]; done)), H', ⟨by first | omega | exact Nat.le_refl _⟩, ⟨by (with_reducible repeat (first | refine blk_drewN ?_ _ | refine blk_drew ?_ | refine blk_alloc ?_ _)); refine blk_far ?_ NB502_534.out _; (with_reducible repeat (first | refine blk_drewN ?_ _ | refine blk_drew ?_ | refine blk_alloc ?_ _)); refine blk_far ?_ NB502_534.out _; (with_reducible repeat (first | refine blk_drewN ?_ _ | refine blk_drew ?_ | refine blk_alloc ?_ _)); exact BK502.out⟩, ⟨by (with_reducible repeat (first | refine blk_drewN ?_ _ | refine blk_drew ?_ | refine blk_alloc ?_ _)); refine blk_far ?_ NB503_534.out _; (with_reducible repeat (first | refine blk_drewN ?_ _ | refine blk_drew ?_ | refine blk_alloc ?_ _)); refine blk_far ?_ NB503_534.out _; (with_reducible repeat (first | refine blk_drewN ?_ _ | refine blk_drew ?_ | refine blk_alloc ?_ _)); exact BK503.out⟩, ⟨by (with_reducible repeat (first | refine blk_drewN ?_ _ | refine blk_drew ?_ | refine blk_alloc ?_ _)); refine blk_far ?_ NB507_534.out _; (with_reducible repeat (first | refine blk_drewN ?_ _ | refine blk_drew ?_ | refine blk_alloc ?_ _)); refine blk_far ?_ NB507_534.out _; (with_reducible repeat (first | refine blk_drewN ?_ _ | refine blk_drew ?_ | refine blk_alloc ?_ _)); exact BK507.out⟩, ⟨by (with_reducible repeat (first | refine blk_drewN ?_ _ | refine blk_drew ?_ | refine blk_alloc ?_ _)); refine blk_far ?_ NB510_534.out _; (with_reducible repeat (first | refine blk_drewN ?_ _ | refine blk_drew ?_ | refine blk_alloc ?_ _)); refine blk_far ?_ NB510_534.out _; (with_reducible repeat (first | refine blk_drewN ?_ _ | refine blk_drew ?_ | refine blk_alloc ?_ _)); exact BK510.out⟩, ⟨by (with_reducible repeat (first | refine blk_drewN ?_ _ | refine blk_drew ?_ | refine blk_alloc ?_ _)); refine blk_far ?_ NB514_534.out _; (with_reducible repeat (first | refine blk_drewN ?_ _ | refine blk_drew ?_ | refine blk_alloc ?_ _)); refine blk_far ?_ NB514_534.out _; (with_reducible repeat (first | refine blk_drewN ?_ _ | refine blk_drew ?_ | refine blk_alloc ?_ _)); exact BK514.out⟩, ⟨by (with_reducible repeat (first | refine blk_drewN ?_ _ | refine blk_drew ?_ | refine blk_alloc ?_ _)); refine blk_far ?_ NB518_534.out _; (with_reducible repeat (first | refine blk_drewN ?_ _ | refine blk_drew ?_ | refine blk_alloc ?_ _)); refine blk_far ?_ NB518_534.out _; (with_reducible repeat (first | refine blk_drewN ?_ _ | refine blk_drew ?_ | refine blk_alloc ?_ _)); exact BK518.out⟩, ⟨by (with_reducible repeat (first | refine blk_drewN ?_ _ | refine blk_drew ?_ | refine blk_alloc ?_ _)); refine blk_far ?_ NB522_534.out _; (with_reducible repeat (first | refine blk_drewN ?_ _ | refine blk_drew ?_ | refine blk_alloc ?_ _)); refine blk_far ?_ NB522_534.out _; (with_reducible repeat (first | refine blk_drewN ?_ _ | refine blk_drew ?_ | refine blk_alloc ?_ _)); exact BK522.out⟩, ⟨by (with_reducible repeat (first | refine blk_drewN ?_ _ | refine blk_drew ?_ | refine blk_alloc ?_ _)); refine blk_far ?_ NB526_534.out _; (with_reducible repeat (first | refine blk_drewN ?_ _ | refine blk_drew ?_ | refine blk_alloc ?_ _)); refine blk_far ?_ NB526_534.out _; (with_reducible repeat (first | refine blk_drewN ?_ _ | refine blk_drew ?_ | refine blk_alloc ?_ _)); exact BK526.out⟩, ⟨by (with_reducible repeat (first | refine blk_drewN ?_ _ | refine blk_drew ?_ | refine blk_alloc ?_ _)); refine blk_far ?_ NB530_534.out _; (with_reducible repeat (first | refine blk_drewN ?_ _ | refine blk_drew ?_ | refine blk_alloc ?_ _)); refine blk_far ?_ NB530_534.out _; (with_reducible repeat (first | refine blk_drewN ?_ _ | refine blk_drew ?_ | refine blk_alloc ?_ _)); exact BK530.out⟩, ⟨by (with_reducible repeat (first | refine blk_drewN ?_ _ | refine blk_drew ?_ | refine blk_alloc ?_ _)); refine blk_put (cs := #[.int .i64 t531, .int .i64 0]) ?_ 1 _ rfl; (with_reducible repeat (first | refine blk_drewN ?_ _ | refine blk_drew ?_ | refine blk_alloc ?_ _)); refine blk_put (cs := #[.int .i64 0, .int .i64 0]) ?_ 0 _ rfl; (with_reducible repeat (first | refine blk_drewN ?_ _ | refine blk_drew ?_ | refine blk_alloc ?_ _)); exact BK534.out⟩, ⟨by repeat (first | (with_reducible first | exact HB.out | apply below_alloc | apply pw_below_drewN | apply below_drew1 | refine below_set ?_ GE502.out | refine below_set ?_ GE503.out | refine below_set ?_ GE507.out | refine below_set ?_ GE510.out | refine below_set ?_ GE514.out | refine below_set ?_ GE518.out | refine below_set ?_ GE522.out | refine below_set ?_ GE526.out | refine below_set ?_ GE530.out | refine below_set ?_ GE534.out) | exact HB.out)⟩⟩
        · rw [if_neg c96] at H
          have c96b0 : (t517 == 0) = false := beq_eq_false_iff_ne.mpr c96
          have c96b1 : (t517 != 0) = true := bne_iff_ne.mpr c96
          have H' := Aside0.mk H
          clear H
          go_wp2
          go_meet
          case rel => exact ⟨_, (true), (by first | rfl | (simp; done) | (simp [*]; done)), H', ⟨by first | omega | exact Nat.le_refl _⟩, ⟨by (with_reducible repeat (first | refine blk_drewN ?_ _ | refine blk_drew ?_ | refine blk_alloc ?_ _)); refine blk_far ?_ NB502_534.out _; (with_reducible repeat (first | refine blk_drewN ?_ _ | refine blk_drew ?_ | refine blk_alloc ?_ _)); refine blk_far ?_ NB502_534.out _; (with_reducible repeat (first | refine blk_drewN ?_ _ | refine blk_drew ?_ | refine blk_alloc ?_ _)); exact BK502.out⟩, ⟨by (with_reducible repeat (first | refine blk_drewN ?_ _ | refine blk_drew ?_ | refine blk_alloc ?_ _)); refine blk_far ?_ NB503_534.out _; (with_reducible repeat (first | refine blk_drewN ?_ _ | refine blk_drew ?_ | refine blk_alloc ?_ _)); refine blk_far ?_ NB503_534.out _; (with_reducible repeat (first | refine blk_drewN ?_ _ | refine blk_drew ?_ | refine blk_alloc ?_ _)); exact BK503.out⟩, ⟨by (with_reducible repeat (first | refine blk_drewN ?_ _ | refine blk_drew ?_ | refine blk_alloc ?_ _)); refine blk_far ?_ NB507_534.out _; (with_reducible repeat (first | refine blk_drewN ?_ _ | refine blk_drew ?_ | refine blk_alloc ?_ _)); refine blk_far ?_ NB507_534.out _; (with_reducible repeat (first | refine blk_drewN ?_ _ | refine blk_drew ?_ | refine blk_alloc ?_ _)); exact BK507.out⟩, ⟨by (with_reducible repeat (first | refine blk_drewN ?_ _ | refine blk_drew ?_ | refine blk_alloc ?_ _)); refine blk_far ?_ NB510_534.out _; (with_reducible repeat (first | refine blk_drewN ?_ _ | refine blk_drew ?_ | refine blk_alloc ?_ _)); refine blk_far ?_ NB510_534.out _; (with_reducible repeat (first | refine blk_drewN ?_ _ | refine blk_drew ?_ | refine blk_alloc ?_ _)); exact BK510.out⟩, ⟨by (with_reducible repeat (first | refine blk_drewN ?_ _ | refine blk_drew ?_ | refine blk_alloc ?_ _)); refine blk_far ?_ NB514_534.out _; (with_reducible repeat (first | refine blk_drewN ?_ _ | refine blk_drew ?_ | refine blk_alloc ?_ _)); refine blk_far ?_ NB514_534.out _; (with_reducible repeat (first | refine blk_drewN ?_ _ | refine blk_drew ?_ | refine blk_alloc ?_ _)); exact BK514.out⟩, ⟨by (with_reducible repeat (first | refine blk_drewN ?_ _ | refine blk_drew ?_ | refine blk_alloc ?_ _)); refine blk_far ?_ NB518_534.out _; (with_reducible repeat (first | refine blk_drewN ?_ _ | refine blk_drew ?_ | refine blk_alloc ?_ _)); refine blk_far ?_ NB518_534.out _; (with_reducible repeat (first | refine blk_drewN ?_ _ | refine blk_drew ?_ | refine blk_alloc ?_ _)); exact BK518.out⟩, ⟨by (with_reducible repeat (first | refine blk_drewN ?_ _ | refine blk_drew ?_ | refine blk_alloc ?_ _)); refine blk_far ?_ NB522_534.out _; (with_reducible repeat (first | refine blk_drewN ?_ _ | refine blk_drew ?_ | refine blk_alloc ?_ _)); refine blk_far ?_ NB522_534.out _; (with_reducible repeat (first | refine blk_drewN ?_ _ | refine blk_drew ?_ | refine blk_alloc ?_ _)); exact BK522.out⟩, ⟨by (with_reducible repeat (first | refine blk_drewN ?_ _ | refine blk_drew ?_ | refine blk_alloc ?_ _)); refine blk_far ?_ NB526_534.out _; (with_reducible repeat (first | refine blk_drewN ?_ _ | refine blk_drew ?_ | refine blk_alloc ?_ _)); refine blk_far ?_ NB526_534.out _; (with_reducible repeat (first | refine blk_drewN ?_ _ | refine blk_drew ?_ | refine blk_alloc ?_ _)); exact BK526.out⟩, ⟨by (with_reducible repeat (first | refine blk_drewN ?_ _ | refine blk_drew ?_ | refine blk_alloc ?_ _)); refine blk_far ?_ NB530_534.out _; (with_reducible repeat (first | refine blk_drewN ?_ _ | refine blk_drew ?_ | refine blk_alloc ?_ _)); refine blk_far ?_ NB530_534.out _; (with_reducible repeat (first | refine blk_drewN ?_ _ | refine blk_drew ?_ | refine blk_alloc ?_ _)); exact BK530.out⟩, ⟨by (with_reducible repeat (first | refine blk_drewN ?_ _ | refine blk_drew ?_ | refine blk_alloc ?_ _)); refine blk_put (cs := #[.int .i64 t531, .int .i64 0]) ?_ 1 _ rfl; (with_reducible repeat (first | refine blk_drewN ?_ _ | refine blk_drew ?_ | refine blk_alloc ?_ _)); refine blk_put (cs := #[.int .i64 0, .int .i64 0]) ?_ 0 _ rfl; (with_reducible repeat (first | refine blk_drewN ?_ _ | refine blk_drew ?_ | refine blk_alloc ?_ _)); exact BK534.out⟩, ⟨by repeat (first | (with_reducible first | exact HB.out | apply below_alloc | apply pw_below_drewN | apply below_drew1 | refine below_set ?_ GE502.out | refine below_set ?_ GE503.out | refine below_set ?_ GE507.out | refine below_set ?_ GE510.out | refine below_set ?_ GE514.out | refine below_set ?_ GE518.out | refine below_set ?_ GE522.out | refine below_set ?_ GE526.out | refine below_set ?_ GE530.out | refine below_set ?_ GE534.out) | exact HB.out)⟩⟩
      · rw [if_neg c95] at H
        have c95b0 : (t513 == 0) = false := beq_eq_false_iff_ne.mpr c95
        have c95b1 : (t513 != 0) = true := bne_iff_ne.mpr c95
        (first | rw [c95b0] | (simp only [i64_w, i32_w]; rw [c95b0]) | skip)
        by_cases c164 : t529 = 0
        · rw [if_pos c164] at H
          have c164b0 : (t529 == 0) = true := beq_iff_eq.mpr c164
          have c164b1 : (t529 != 0) = false := bne_eq_false_iff_eq.mpr c164
          clear c164
          have H' := Aside0.mk H
          clear H
          have hnb165 := NB530_502.out
          have hnc165 := NB502_530.out
          have hnb166 := NB530_503.out
          have hnc166 := NB503_530.out
          have hnb167 := NB530_507.out
          have hnc167 := NB507_530.out
          have hnb168 := NB530_510.out
          have hnc168 := NB510_530.out
          have hnb169 := NB530_514.out
          have hnc169 := NB514_530.out
          have hnb170 := NB530_518.out
          have hnc170 := NB518_530.out
          have hnb171 := NB530_522.out
          have hnc171 := NB522_530.out
          have hnb172 := NB530_526.out
          have hnc172 := NB526_530.out
          have hnb173 := NB530_534.out
          have hnc173 := NB534_530.out
          have hcz174_0 : w84.cell? ⟨gb530, 0, none⟩ = some (.int .i64 t527) := (blk_cell BK530.out 0).trans rfl
          have hcz174_1 : w84.cell? ⟨gb530, 1, none⟩ = some (.int .i64 t528) := (blk_cell BK530.out 1).trans rfl
          have hfz174_0 := blk_frozen BK530.out 0
          have hfz174_1 := blk_frozen BK530.out 1
          go_wp2
          go_meet
          case rel => exact ⟨_, ((!(t527 == 0) || (!(t528 == 1)))), (by first | rfl | (simp; done) | (simp [*]; done)), H', ⟨by first | omega | exact Nat.le_refl _⟩, ⟨by (with_reducible repeat (first | refine blk_drewN ?_ _ | refine blk_drew ?_ | refine blk_alloc ?_ _)); refine blk_far ?_ NB502_534.out _; (with_reducible repeat (first | refine blk_drewN ?_ _ | refine blk_drew ?_ | refine blk_alloc ?_ _)); refine blk_far ?_ NB502_534.out _; (with_reducible repeat (first | refine blk_drewN ?_ _ | refine blk_drew ?_ | refine blk_alloc ?_ _)); exact BK502.out⟩, ⟨by (with_reducible repeat (first | refine blk_drewN ?_ _ | refine blk_drew ?_ | refine blk_alloc ?_ _)); refine blk_far ?_ NB503_534.out _; (with_reducible repeat (first | refine blk_drewN ?_ _ | refine blk_drew ?_ | refine blk_alloc ?_ _)); refine blk_far ?_ NB503_534.out _; (with_reducible repeat (first | refine blk_drewN ?_ _ | refine blk_drew ?_ | refine blk_alloc ?_ _)); exact BK503.out⟩, ⟨by (with_reducible repeat (first | refine blk_drewN ?_ _ | refine blk_drew ?_ | refine blk_alloc ?_ _)); refine blk_far ?_ NB507_534.out _; (with_reducible repeat (first | refine blk_drewN ?_ _ | refine blk_drew ?_ | refine blk_alloc ?_ _)); refine blk_far ?_ NB507_534.out _; (with_reducible repeat (first | refine blk_drewN ?_ _ | refine blk_drew ?_ | refine blk_alloc ?_ _)); exact BK507.out⟩, ⟨by (with_reducible repeat (first | refine blk_drewN ?_ _ | refine blk_drew ?_ | refine blk_alloc ?_ _)); refine blk_far ?_ NB510_534.out _; (with_reducible repeat (first | refine blk_drewN ?_ _ | refine blk_drew ?_ | refine blk_alloc ?_ _)); refine blk_far ?_ NB510_534.out _; (with_reducible repeat (first | refine blk_drewN ?_ _ | refine blk_drew ?_ | refine blk_alloc ?_ _)); exact BK510.out⟩, ⟨by (with_reducible repeat (first | refine blk_drewN ?_ _ | refine blk_drew ?_ | refine blk_alloc ?_ _)); refine blk_far ?_ NB514_534.out _; (with_reducible repeat (first | refine blk_drewN ?_ _ | refine blk_drew ?_ | refine blk_alloc ?_ _)); refine blk_far ?_ NB514_534.out _; (with_reducible repeat (first | refine blk_drewN ?_ _ | refine blk_drew ?_ | refine blk_alloc ?_ _)); exact BK514.out⟩, ⟨by (with_reducible repeat (first | refine blk_drewN ?_ _ | refine blk_drew ?_ | refine blk_alloc ?_ _)); refine blk_far ?_ NB518_534.out _; (with_reducible repeat (first | refine blk_drewN ?_ _ | refine blk_drew ?_ | refine blk_alloc ?_ _)); refine blk_far ?_ NB518_534.out _; (with_reducible repeat (first | refine blk_drewN ?_ _ | refine blk_drew ?_ | refine blk_alloc ?_ _)); exact BK518.out⟩, ⟨by (with_reducible repeat (first | refine blk_drewN ?_ _ | refine blk_drew ?_ | refine blk_alloc ?_ _)); refine blk_far ?_ NB522_534.out _; (with_reducible repeat (first | refine blk_drewN ?_ _ | refine blk_drew ?_ | refine blk_alloc ?_ _)); refine blk_far ?_ NB522_534.out _; (with_reducible repeat (first | refine blk_drewN ?_ _ | refine blk_drew ?_ | refine blk_alloc ?_ _)); exact BK522.out⟩, ⟨by (with_reducible repeat (first | refine blk_drewN ?_ _ | refine blk_drew ?_ | refine blk_alloc ?_ _)); refine blk_far ?_ NB526_534.out _; (with_reducible repeat (first | refine blk_drewN ?_ _ | refine blk_drew ?_ | refine blk_alloc ?_ _)); refine blk_far ?_ NB526_534.out _; (with_reducible repeat (first | refine blk_drewN ?_ _ | refine blk_drew ?_ | refine blk_alloc ?_ _)); exact BK526.out⟩, ⟨by (with_reducible repeat (first | refine blk_drewN ?_ _ | refine blk_drew ?_ | refine blk_alloc ?_ _)); refine blk_far ?_ NB530_534.out _; (with_reducible repeat (first | refine blk_drewN ?_ _ | refine blk_drew ?_ | refine blk_alloc ?_ _)); refine blk_far ?_ NB530_534.out _; (with_reducible repeat (first | refine blk_drewN ?_ _ | refine blk_drew ?_ | refine blk_alloc ?_ _)); exact BK530.out⟩, ⟨by (with_reducible repeat (first | refine blk_drewN ?_ _ | refine blk_drew ?_ | refine blk_alloc ?_ _)); refine blk_put (cs := #[.int .i64 t531, .int .i64 0]) ?_ 1 _ rfl; (with_reducible repeat (first | refine blk_drewN ?_ _ | refine blk_drew ?_ | refine blk_alloc ?_ _)); refine blk_put (cs := #[.int .i64 0, .int .i64 0]) ?_ 0 _ rfl; (with_reducible repeat (first | refine blk_drewN ?_ _ | refine blk_drew ?_ | refine blk_alloc ?_ _)); exact BK534.out⟩, ⟨by repeat (first | (with_reducible first | exact HB.out | apply below_alloc | apply pw_below_drewN | apply below_drew1 | refine below_set ?_ GE502.out | refine below_set ?_ GE503.out | refine below_set ?_ GE507.out | refine below_set ?_ GE510.out | refine below_set ?_ GE514.out | refine below_set ?_ GE518.out | refine below_set ?_ GE522.out | refine below_set ?_ GE526.out | refine below_set ?_ GE530.out | refine below_set ?_ GE534.out) | exact HB.out)⟩⟩
        · rw [if_neg c164] at H
          have c164b0 : (t529 == 0) = false := beq_eq_false_iff_ne.mpr c164
          have c164b1 : (t529 != 0) = true := bne_iff_ne.mpr c164
          have H' := Aside0.mk H
          clear H
          go_wp2
          go_meet
          case rel => exact ⟨_, (true), (by first | rfl | (simp; done) | (simp [*]; done)), H', ⟨by first | omega | exact Nat.le_refl _⟩, ⟨by (with_reducible repeat (first | refine blk_drewN ?_ _ | refine blk_drew ?_ | refine blk_alloc ?_ _)); refine blk_far ?_ NB502_534.out _; (with_reducible repeat (first | refine blk_drewN ?_ _ | refine blk_drew ?_ | refine blk_alloc ?_ _)); refine blk_far ?_ NB502_534.out _; (with_reducible repeat (first | refine blk_drewN ?_ _ | refine blk_drew ?_ | refine blk_alloc ?_ _)); exact BK502.out⟩, ⟨by (with_reducible repeat (first | refine blk_drewN ?_ _ | refine blk_drew ?_ | refine blk_alloc ?_ _)); refine blk_far ?_ NB503_534.out _; (with_reducible repeat (first | refine blk_drewN ?_ _ | refine blk_drew ?_ | refine blk_alloc ?_ _)); refine blk_far ?_ NB503_534.out _; (with_reducible repeat (first | refine blk_drewN ?_ _ | refine blk_drew ?_ | refine blk_alloc ?_ _)); exact BK503.out⟩, ⟨by (with_reducible repeat (first | refine blk_drewN ?_ _ | refine blk_drew ?_ | refine blk_alloc ?_ _)); refine blk_far ?_ NB507_534.out _; (with_reducible repeat (first | refine blk_drewN ?_ _ | refine blk_drew ?_ | refine blk_alloc ?_ _)); refine blk_far ?_ NB507_534.out _; (with_reducible repeat (first | refine blk_drewN ?_ _ | refine blk_drew ?_ | refine blk_alloc ?_ _)); exact BK507.out⟩, ⟨by (with_reducible repeat (first | refine blk_drewN ?_ _ | refine blk_drew ?_ | refine blk_alloc ?_ _)); refine blk_far ?_ NB510_534.out _; (with_reducible repeat (first | refine blk_drewN ?_ _ | refine blk_drew ?_ | refine blk_alloc ?_ _)); refine blk_far ?_ NB510_534.out _; (with_reducible repeat (first | refine blk_drewN ?_ _ | refine blk_drew ?_ | refine blk_alloc ?_ _)); exact BK510.out⟩, ⟨by (with_reducible repeat (first | refine blk_drewN ?_ _ | refine blk_drew ?_ | refine blk_alloc ?_ _)); refine blk_far ?_ NB514_534.out _; (with_reducible repeat (first | refine blk_drewN ?_ _ | refine blk_drew ?_ | refine blk_alloc ?_ _)); refine blk_far ?_ NB514_534.out _; (with_reducible repeat (first | refine blk_drewN ?_ _ | refine blk_drew ?_ | refine blk_alloc ?_ _)); exact BK514.out⟩, ⟨by (with_reducible repeat (first | refine blk_drewN ?_ _ | refine blk_drew ?_ | refine blk_alloc ?_ _)); refine blk_far ?_ NB518_534.out _; (with_reducible repeat (first | refine blk_drewN ?_ _ | refine blk_drew ?_ | refine blk_alloc ?_ _)); refine blk_far ?_ NB518_534.out _; (with_reducible repeat (first | refine blk_drewN ?_ _ | refine blk_drew ?_ | refine blk_alloc ?_ _)); exact BK518.out⟩, ⟨by (with_reducible repeat (first | refine blk_drewN ?_ _ | refine blk_drew ?_ | refine blk_alloc ?_ _)); refine blk_far ?_ NB522_534.out _; (with_reducible repeat (first | refine blk_drewN ?_ _ | refine blk_drew ?_ | refine blk_alloc ?_ _)); refine blk_far ?_ NB522_534.out _; (with_reducible repeat (first | refine blk_drewN ?_ _ | refine blk_drew ?_ | refine blk_alloc ?_ _)); exact BK522.out⟩, ⟨by (with_reducible repeat (first | refine blk_drewN ?_ _ | refine blk_drew ?_ | refine blk_alloc ?_ _)); refine blk_far ?_ NB526_534.out _; (with_reducible repeat (first | refine blk_drewN ?_ _ | refine blk_drew ?_ | refine blk_alloc ?_ _)); refine blk_far ?_ NB526_534.out _; (with_reducible repeat (first | refine blk_drewN ?_ _ | refine blk_drew ?_ | refine blk_alloc ?_ _)); exact BK526.out⟩, ⟨by (with_reducible repeat (first | refine blk_drewN ?_ _ | refine blk_drew ?_ | refine blk_alloc ?_ _)); refine blk_far ?_ NB530_534.out _; (with_reducible repeat (first | refine blk_drewN ?_ _ | refine blk_drew ?_ | refine blk_alloc ?_ _)); refine blk_far ?_ NB530_534.out _; (with_reducible repeat (first | refine blk_drewN ?_ _ | refine blk_drew ?_ | refine blk_alloc ?_ _)); exact BK530.out⟩, ⟨by (with_reducible repeat (first | refine blk_drewN ?_ _ | refine blk_drew ?_ | refine blk_alloc ?_ _)); refine blk_put (cs := #[.int .i64 t531, .int .i64 0]) ?_ 1 _ rfl; (with_reducible repeat (first | refine blk_drewN ?_ _ | refine blk_drew ?_ | refine blk_alloc ?_ _)); refine blk_put (cs := #[.int .i64 0, .int .i64 0]) ?_ 0 _ rfl; (with_reducible repeat (first | refine blk_drewN ?_ _ | refine blk_drew ?_ | refine blk_alloc ?_ _)); exact BK534.out⟩, ⟨by repeat (first | (with_reducible first | exact HB.out | apply below_alloc | apply pw_below_drewN | apply below_drew1 | refine below_set ?_ GE502.out | refine below_set ?_ GE503.out | refine below_set ?_ GE507.out | refine below_set ?_ GE510.out | refine below_set ?_ GE514.out | refine below_set ?_ GE518.out | refine below_set ?_ GE522.out | refine below_set ?_ GE526.out | refine below_set ?_ GE530.out | refine below_set ?_ GE534.out) | exact HB.out)⟩⟩
    case rest =>
      clear HC13
      try clear c1
      try clear c2
      try clear p2
      try clear c3
      try clear c4
      try clear c5
      try clear c6
      try clear c7
      try clear c8
      try clear c9
      try clear c10
      try clear c11
      try clear c12
      try clear c13
      try clear c14
      try clear c15
      try clear c16
      try clear c17
      try clear c20
      try clear c21
      try clear c22
      try clear c23
      try clear c27
      try clear c28
      try clear c29
      try clear c34
      try clear c35
      try clear c36
      try clear c37
      try clear c42
      try clear c43
      try clear c44
      try clear c45
      try clear c46
      try clear c52
      try clear c53
      try clear c54
      try clear c55
      try clear c56
      try clear c57
      try clear c62
      try clear c63
      try clear c64
      try clear c65
      try clear c66
      try clear c67
      try clear c68
      try clear c73
      try clear c74
      try clear c75
      try clear c76
      try clear c77
      try clear c78
      try clear c79
      try clear c80
      try clear c85
      try clear c86
      try clear c87
      try clear c88
      try clear c89
      try clear c90
      try clear c91
      try clear c92
      try clear c93
      try clear c95
      try clear c95b0
      try clear c95b1
      try clear c96
      try clear c96b0
      try clear c96b1
      try clear c97
      try clear c97b0
      try clear c98
      try clear c99
      try clear c100
      try clear c101
      try clear c102
      try clear c103
      try clear c104
      try clear c105
      try clear c106
      try clear c108
      try clear c109
      try clear c110
      try clear c111
      try clear c112
      try clear c113
      try clear c114
      try clear c115
      try clear c117
      try clear c117b0
      try clear c117b1
      try clear c118
      try clear c119
      try clear c120
      try clear c121
      try clear c122
      try clear c123
      try clear c124
      try clear c125
      try clear c126
      try clear c128
      try clear c129
      try clear c130
      try clear c131
      try clear c132
      try clear c133
      try clear c134
      try clear c135
      try clear c137
      try clear c138
      try clear c139
      try clear c140
      try clear c141
      try clear c142
      try clear c143
      try clear c145
      try clear c146
      try clear c147
      try clear c148
      try clear c149
      try clear c150
      try clear c151
      try clear c152
      try clear c153
      try clear c155
      try clear c156
      try clear c157
      try clear c158
      try clear c159
      try clear c160
      try clear c161
      try clear c162
      try clear c164
      try clear c164b0
      try clear c164b1
      try clear c165
      try clear c166
      try clear c167
      try clear c168
      try clear c169
      try clear c170
      try clear c171
      try clear c172
      try clear c173
      try clear hcz107_0
      try clear hcz107_1
      try clear hcz116_0
      try clear hcz116_1
      try clear hcz127_0
      try clear hcz127_1
      try clear hcz136_0
      try clear hcz136_1
      try clear hcz144_0
      try clear hcz144_1
      try clear hcz154_0
      try clear hcz154_1
      try clear hcz163_0
      try clear hcz163_1
      try clear hcz174_0
      try clear hcz174_1
      try clear hcz18_0
      try clear hcz18_1
      try clear hcz23_0
      try clear hcz23_1
      try clear hcz24_0
      try clear hcz24_1
      try clear hcz30_0
      try clear hcz30_1
      try clear hcz31_0
      try clear hcz31_1
      try clear hcz38_0
      try clear hcz38_1
      try clear hcz39_0
      try clear hcz39_1
      try clear hcz47_0
      try clear hcz47_1
      try clear hcz48_0
      try clear hcz48_1
      try clear hcz49_0
      try clear hcz49_1
      try clear hcz58_0
      try clear hcz58_1
      try clear hcz59_0
      try clear hcz59_1
      try clear hcz69_0
      try clear hcz69_1
      try clear hcz70_0
      try clear hcz70_1
      try clear hcz81_0
      try clear hcz81_1
      try clear hcz82_0
      try clear hcz82_1
      try clear hcz94_0
      try clear hcz94_1
      try clear hfz107_0
      try clear hfz107_1
      try clear hfz116_0
      try clear hfz116_1
      try clear hfz127_0
      try clear hfz127_1
      try clear hfz136_0
      try clear hfz136_1
      try clear hfz144_0
      try clear hfz144_1
      try clear hfz154_0
      try clear hfz154_1
      try clear hfz163_0
      try clear hfz163_1
      try clear hfz174_0
      try clear hfz174_1
      try clear hfz18_0
      try clear hfz18_1
      try clear hfz23_0
      try clear hfz23_1
      try clear hfz24_0
      try clear hfz24_1
      try clear hfz30_0
      try clear hfz30_1
      try clear hfz31_0
      try clear hfz31_1
      try clear hfz38_0
      try clear hfz38_1
      try clear hfz39_0
      try clear hfz39_1
      try clear hfz47_0
      try clear hfz47_1
      try clear hfz48_0
      try clear hfz48_1
      try clear hfz49_0
      try clear hfz49_1
      try clear hfz58_0
      try clear hfz58_1
      try clear hfz59_0
      try clear hfz59_1
      try clear hfz69_0
      try clear hfz69_1
      try clear hfz70_0
      try clear hfz70_1
      try clear hfz81_0
      try clear hfz81_1
      try clear hfz82_0
      try clear hfz82_1
      try clear hfz94_0
      try clear hfz94_1
      obtain ⟨kq, x82_12, rfl, HA, HJ12, BK502, BK503, BK507, BK510, BK514, BK518, BK522, BK526, BK530, BK534, HB⟩ := hcut
      cases kq with
      | zero => exact absurd HA.out (by simp [partitalaw01_RatioBack.j0])
      | succ kj12 =>
        have H := HA.out
        clear HA
        simp only [partitalaw01_RatioBack.j0] at H
        by_cases c175 : x82_12 = true
        · subst c175
          have H1 : (some false) = some r := by rw [if_pos rfl] at H; exact H
          clear H
          have H := H1
          clear H1
          exact absurd H (by rw [HR_.out]; simp)
        · replace c175 := Bool.eq_false_iff.mpr c175
          subst c175
          have H1 : (if t508 = 0 then (if true = true then (if t533 = 11 then (some (t531 == 0 && (t532 == 0))) else (some false)) else (some false)) else (if true = true then (if t521 = 0 then (if t525 = 0 then (if (t523 == t505 && (t524 == t506)) = true then (if t533 = 0 then (some (t531 == 1 && (t532 == 1))) else (some false)) else (some false)) else (some false)) else (if t533 = 0 then (some (t531 == 1 && (t532 == 1))) else (some false))) else (some false))) = some r := by rw [if_neg (show ¬ (false = true) by decide)] at H; exact H
          clear H
          have H := H1
          clear H1
          by_cases c176 : t508 = 0
          · rw [if_pos c176] at H
            have c176b0 : (t508 == 0) = true := beq_iff_eq.mpr c176
            have c176b1 : (t508 != 0) = false := bne_eq_false_iff_eq.mpr c176
            clear c176
            by_cases c177 : true = true
            · clear c177
              have H1 : (if t533 = 11 then (some (t531 == 0 && (t532 == 0))) else (some false)) = some r := by rw [if_pos rfl] at H; exact H
              clear H
              have H := H1
              clear H1
              by_cases c178 : t533 = 11
              · rw [if_pos c178] at H
                have c178b0 : (t533 == 11) = true := beq_iff_eq.mpr c178
                have c178b1 : (t533 != 11) = false := bne_eq_false_iff_eq.mpr c178
                clear c178
                obtain rfl := Option.some.inj H
                have hnb179 := NB510_502.out
                have hnc179 := NB502_510.out
                have hnb180 := NB510_503.out
                have hnc180 := NB503_510.out
                have hnb181 := NB510_507.out
                have hnc181 := NB507_510.out
                have hnb182 := NB510_514.out
                have hnc182 := NB514_510.out
                have hnb183 := NB510_518.out
                have hnc183 := NB518_510.out
                have hnb184 := NB510_522.out
                have hnc184 := NB522_510.out
                have hnb185 := NB510_526.out
                have hnc185 := NB526_510.out
                have hnb186 := NB510_530.out
                have hnc186 := NB530_510.out
                have hnb187 := NB510_534.out
                have hnc187 := NB534_510.out
                have hcz188_0 : wc.cell? ⟨gb510, 0, none⟩ = some (.int .i64 t508) := (blk_cell BK510.out 0).trans rfl
                have hcz188_1 : wc.cell? ⟨gb510, 1, none⟩ = some (.int .i64 t509) := (blk_cell BK510.out 1).trans rfl
                have hfz188_0 := blk_frozen BK510.out 0
                have hfz188_1 := blk_frozen BK510.out 1
                have hnb189 := NB534_502.out
                have hnc189 := NB502_534.out
                have hnb190 := NB534_503.out
                have hnc190 := NB503_534.out
                have hnb191 := NB534_507.out
                have hnc191 := NB507_534.out
                have hnb192 := NB534_514.out
                have hnc192 := NB514_534.out
                have hnb193 := NB534_518.out
                have hnc193 := NB518_534.out
                have hnb194 := NB534_522.out
                have hnc194 := NB522_534.out
                have hnb195 := NB534_526.out
                have hnc195 := NB526_534.out
                have hnb196 := NB534_530.out
                have hnc196 := NB530_534.out
                have hcz197_0 : wc.cell? ⟨gb534, 0, none⟩ = some (.int .i64 t531) := (blk_cell BK534.out 0).trans rfl
                have hcz197_1 : wc.cell? ⟨gb534, 1, none⟩ = some (.int .i64 t532) := (blk_cell BK534.out 1).trans rfl
                have hfz197_0 := blk_frozen BK534.out 0
                have hfz197_1 := blk_frozen BK534.out 1
                go_wp2
                go_ret
                exact ⟨by first | rfl | (simp [errW_none, errW_some] <;> rfl) | (simp [*, errW_none, errW_some] <;> rfl), by repeat (first | (with_reducible first | exact HB.out | apply below_alloc | apply pw_below_drewN | apply below_drew1 | refine below_set ?_ GE502.out | refine below_set ?_ GE503.out | refine below_set ?_ GE507.out | refine below_set ?_ GE510.out | refine below_set ?_ GE514.out | refine below_set ?_ GE518.out | refine below_set ?_ GE522.out | refine below_set ?_ GE526.out | refine below_set ?_ GE530.out | refine below_set ?_ GE534.out) | exact HB.out)⟩
              · rw [if_neg c178] at H
                have c178b0 : (t533 == 11) = false := beq_eq_false_iff_ne.mpr c178
                have c178b1 : (t533 != 11) = true := bne_iff_ne.mpr c178
                exact absurd H (by rw [HR_.out]; simp)
            · exact absurd rfl c177
          · rw [if_neg c176] at H
            have c176b0 : (t508 == 0) = false := beq_eq_false_iff_ne.mpr c176
            have c176b1 : (t508 != 0) = true := bne_iff_ne.mpr c176
            by_cases c198 : true = true
            · clear c198
              have H1 : (if t521 = 0 then (if t525 = 0 then (if (t523 == t505 && (t524 == t506)) = true then (if t533 = 0 then (some (t531 == 1 && (t532 == 1))) else (some false)) else (some false)) else (some false)) else (if t533 = 0 then (some (t531 == 1 && (t532 == 1))) else (some false))) = some r := by rw [if_pos rfl] at H; exact H
              clear H
              have H := H1
              clear H1
              by_cases c199 : t521 = 0
              · rw [if_pos c199] at H
                have c199b0 : (t521 == 0) = true := beq_iff_eq.mpr c199
                have c199b1 : (t521 != 0) = false := bne_eq_false_iff_eq.mpr c199
                clear c199
                by_cases c200 : t525 = 0
                · rw [if_pos c200] at H
                  have c200b0 : (t525 == 0) = true := beq_iff_eq.mpr c200
                  have c200b1 : (t525 != 0) = false := bne_eq_false_iff_eq.mpr c200
                  clear c200
                  by_cases c201 : (t523 == t505 && (t524 == t506)) = true
                  · rw [if_pos c201] at H
                    have c201b0 : (t523 == t505 && (t524 == t506)) = true := c201
                    (try (have c201b1 : decide (t523 = t505 && (t524 == t506)) = true := by simpa using c201))
                    (try (have c201b2 : (t523 == t505 && (t524 == t506)) = true := by simpa using c201))
                    clear c201
                    by_cases c202 : t533 = 0
                    · rw [if_pos c202] at H
                      have c202b0 : (t533 == 0) = true := beq_iff_eq.mpr c202
                      have c202b1 : (t533 != 0) = false := bne_eq_false_iff_eq.mpr c202
                      clear c202
                      obtain rfl := Option.some.inj H
                      have hnb203 := NB510_502.out
                      have hnc203 := NB502_510.out
                      have hnb204 := NB510_503.out
                      have hnc204 := NB503_510.out
                      have hnb205 := NB510_507.out
                      have hnc205 := NB507_510.out
                      have hnb206 := NB510_514.out
                      have hnc206 := NB514_510.out
                      have hnb207 := NB510_518.out
                      have hnc207 := NB518_510.out
                      have hnb208 := NB510_522.out
                      have hnc208 := NB522_510.out
                      have hnb209 := NB510_526.out
                      have hnc209 := NB526_510.out
                      have hnb210 := NB510_530.out
                      have hnc210 := NB530_510.out
                      have hnb211 := NB510_534.out
                      have hnc211 := NB534_510.out
                      have hcz212_0 : wc.cell? ⟨gb510, 0, none⟩ = some (.int .i64 t508) := (blk_cell BK510.out 0).trans rfl
                      have hcz212_1 : wc.cell? ⟨gb510, 1, none⟩ = some (.int .i64 t509) := (blk_cell BK510.out 1).trans rfl
                      have hfz212_0 := blk_frozen BK510.out 0
                      have hfz212_1 := blk_frozen BK510.out 1
                      have hnb213 := NB526_502.out
                      have hnc213 := NB502_526.out
                      have hnb214 := NB526_503.out
                      have hnc214 := NB503_526.out
                      have hnb215 := NB526_507.out
                      have hnc215 := NB507_526.out
                      have hnb216 := NB526_514.out
                      have hnc216 := NB514_526.out
                      have hnb217 := NB526_518.out
                      have hnc217 := NB518_526.out
                      have hnb218 := NB526_522.out
                      have hnc218 := NB522_526.out
                      have hnb219 := NB526_530.out
                      have hnc219 := NB530_526.out
                      have hnb220 := NB526_534.out
                      have hnc220 := NB534_526.out
                      have hcz221_0 : wc.cell? ⟨gb526, 0, none⟩ = some (.int .i64 t523) := (blk_cell BK526.out 0).trans rfl
                      have hcz221_1 : wc.cell? ⟨gb526, 1, none⟩ = some (.int .i64 t524) := (blk_cell BK526.out 1).trans rfl
                      have hfz221_0 := blk_frozen BK526.out 0
                      have hfz221_1 := blk_frozen BK526.out 1
                      have hnb222 := NB507_502.out
                      have hnc222 := NB502_507.out
                      have hnb223 := NB507_503.out
                      have hnc223 := NB503_507.out
                      have hnb224 := NB507_514.out
                      have hnc224 := NB514_507.out
                      have hnb225 := NB507_518.out
                      have hnc225 := NB518_507.out
                      have hnb226 := NB507_522.out
                      have hnc226 := NB522_507.out
                      have hnb227 := NB507_530.out
                      have hnc227 := NB530_507.out
                      have hnb228 := NB507_534.out
                      have hnc228 := NB534_507.out
                      have hcz229_0 : wc.cell? ⟨gb507, 0, none⟩ = some (.int .i64 t505) := (blk_cell BK507.out 0).trans rfl
                      have hcz229_1 : wc.cell? ⟨gb507, 1, none⟩ = some (.int .i64 t506) := (blk_cell BK507.out 1).trans rfl
                      have hfz229_0 := blk_frozen BK507.out 0
                      have hfz229_1 := blk_frozen BK507.out 1
                      have hnb230 := NB534_502.out
                      have hnc230 := NB502_534.out
                      have hnb231 := NB534_503.out
                      have hnc231 := NB503_534.out
                      have hnb232 := NB534_514.out
                      have hnc232 := NB514_534.out
                      have hnb233 := NB534_518.out
                      have hnc233 := NB518_534.out
                      have hnb234 := NB534_522.out
                      have hnc234 := NB522_534.out
                      have hnb235 := NB534_530.out
                      have hnc235 := NB530_534.out
                      have hcz236_0 : wc.cell? ⟨gb534, 0, none⟩ = some (.int .i64 t531) := (blk_cell BK534.out 0).trans rfl
                      have hcz236_1 : wc.cell? ⟨gb534, 1, none⟩ = some (.int .i64 t532) := (blk_cell BK534.out 1).trans rfl
                      have hfz236_0 := blk_frozen BK534.out 0
                      have hfz236_1 := blk_frozen BK534.out 1
                      go_wp2
                      go_ret
                      exact ⟨by first | rfl | (simp [errW_none, errW_some] <;> rfl) | (simp [*, errW_none, errW_some] <;> rfl), by repeat (first | (with_reducible first | exact HB.out | apply below_alloc | apply pw_below_drewN | apply below_drew1 | refine below_set ?_ GE502.out | refine below_set ?_ GE503.out | refine below_set ?_ GE507.out | refine below_set ?_ GE510.out | refine below_set ?_ GE514.out | refine below_set ?_ GE518.out | refine below_set ?_ GE522.out | refine below_set ?_ GE526.out | refine below_set ?_ GE530.out | refine below_set ?_ GE534.out) | exact HB.out)⟩
                    · rw [if_neg c202] at H
                      have c202b0 : (t533 == 0) = false := beq_eq_false_iff_ne.mpr c202
                      have c202b1 : (t533 != 0) = true := bne_iff_ne.mpr c202
                      exact absurd H (by rw [HR_.out]; simp)
                  · rw [if_neg c201] at H
                    have c201b0 : (t523 == t505 && (t524 == t506)) = false := by simpa using c201
                    (try (have c201b1 : decide (t523 = t505 && (t524 == t506)) = false := by simpa using c201))
                    (try (have c201b2 : (t523 == t505 && (t524 == t506)) = false := by simpa using c201))
                    (try (have c201b3 : ¬ (t523 = t505 && (t524 == t506)) := by simpa using c201))
                    clear c201
                    exact absurd H (by rw [HR_.out]; simp)
                · rw [if_neg c200] at H
                  have c200b0 : (t525 == 0) = false := beq_eq_false_iff_ne.mpr c200
                  have c200b1 : (t525 != 0) = true := bne_iff_ne.mpr c200
                  exact absurd H (by rw [HR_.out]; simp)
              · rw [if_neg c199] at H
                have c199b0 : (t521 == 0) = false := beq_eq_false_iff_ne.mpr c199
                have c199b1 : (t521 != 0) = true := bne_iff_ne.mpr c199
                by_cases c237 : t533 = 0
                · rw [if_pos c237] at H
                  have c237b0 : (t533 == 0) = true := beq_iff_eq.mpr c237
                  have c237b1 : (t533 != 0) = false := bne_eq_false_iff_eq.mpr c237
                  clear c237
                  obtain rfl := Option.some.inj H
                  have hnb238 := NB510_502.out
                  have hnc238 := NB502_510.out
                  have hnb239 := NB510_503.out
                  have hnc239 := NB503_510.out
                  have hnb240 := NB510_507.out
                  have hnc240 := NB507_510.out
                  have hnb241 := NB510_514.out
                  have hnc241 := NB514_510.out
                  have hnb242 := NB510_518.out
                  have hnc242 := NB518_510.out
                  have hnb243 := NB510_522.out
                  have hnc243 := NB522_510.out
                  have hnb244 := NB510_526.out
                  have hnc244 := NB526_510.out
                  have hnb245 := NB510_530.out
                  have hnc245 := NB530_510.out
                  have hnb246 := NB510_534.out
                  have hnc246 := NB534_510.out
                  have hcz247_0 : wc.cell? ⟨gb510, 0, none⟩ = some (.int .i64 t508) := (blk_cell BK510.out 0).trans rfl
                  have hcz247_1 : wc.cell? ⟨gb510, 1, none⟩ = some (.int .i64 t509) := (blk_cell BK510.out 1).trans rfl
                  have hfz247_0 := blk_frozen BK510.out 0
                  have hfz247_1 := blk_frozen BK510.out 1
                  have hnb248 := NB534_502.out
                  have hnc248 := NB502_534.out
                  have hnb249 := NB534_503.out
                  have hnc249 := NB503_534.out
                  have hnb250 := NB534_507.out
                  have hnc250 := NB507_534.out
                  have hnb251 := NB534_514.out
                  have hnc251 := NB514_534.out
                  have hnb252 := NB534_518.out
                  have hnc252 := NB518_534.out
                  have hnb253 := NB534_522.out
                  have hnc253 := NB522_534.out
                  have hnb254 := NB534_526.out
                  have hnc254 := NB526_534.out
                  have hnb255 := NB534_530.out
                  have hnc255 := NB530_534.out
                  have hcz256_0 : wc.cell? ⟨gb534, 0, none⟩ = some (.int .i64 t531) := (blk_cell BK534.out 0).trans rfl
                  have hcz256_1 : wc.cell? ⟨gb534, 1, none⟩ = some (.int .i64 t532) := (blk_cell BK534.out 1).trans rfl
                  have hfz256_0 := blk_frozen BK534.out 0
                  have hfz256_1 := blk_frozen BK534.out 1
                  go_wp2
                  go_ret
                  exact ⟨by first | rfl | (simp [errW_none, errW_some] <;> rfl) | (simp [*, errW_none, errW_some] <;> rfl), by repeat (first | (with_reducible first | exact HB.out | apply below_alloc | apply pw_below_drewN | apply below_drew1 | refine below_set ?_ GE502.out | refine below_set ?_ GE503.out | refine below_set ?_ GE507.out | refine below_set ?_ GE510.out | refine below_set ?_ GE514.out | refine below_set ?_ GE518.out | refine below_set ?_ GE522.out | refine below_set ?_ GE526.out | refine below_set ?_ GE530.out | refine below_set ?_ GE534.out) | exact HB.out)⟩
                · rw [if_neg c237] at H
                  have c237b0 : (t533 == 0) = false := beq_eq_false_iff_ne.mpr c237
                  have c237b1 : (t533 != 0) = true := bne_iff_ne.mpr c237
                  exact absurd H (by rw [HR_.out]; simp)
            · exact absurd rfl c198
  · replace c4 := Bool.eq_false_iff.mpr c4
    subst c4
    have H1 : (some false) = some r := by rw [if_neg (show ¬ (false = true) by decide)] at H; exact H
    clear H
    have H := H1
    clear H1
    exact absurd H (by rw [HR_.out]; simp)

/-- THE ONE PURE STATEMENT of partitalaw01_RatioBack: yours. -/
def partitalaw01_RatioBack.Pure : Prop := ∀ (a0_0 : Int) (a0_1 : Int) (a1_0 : Int) (a1_1 : Int), (Lit.int .i64 a0_0).wf = true → (Lit.int .i64 a0_1).wf = true → (Lit.int .i64 a1_0).wf = true → (Lit.int .i64 a1_1).wf = true → ∃ k, partitalaw01_RatioBack.f k a0_0 a0_1 a1_0 a1_1 = some true
theorem partitalaw01_RatioBack.walk (P : partitalaw01_RatioBack.Pure) (a0_0 : Int) (a0_1 : Int) (a1_0 : Int) (a1_1 : Int) (w : World) (hG_ : GW w) (w0_0 : (Lit.int .i64 a0_0).wf = true) (w0_1 : (Lit.int .i64 a0_1).wf = true) (w1_0 : (Lit.int .i64 a1_0).wf = true) (w1_1 : (Lit.int .i64 a1_1).wf = true) :
    Calls Tryd.prog 6 #[.agg #[.int .i64 a0_0, .int .i64 a0_1], .agg #[.int .i64 a1_0, .int .i64 a1_1]] w fun e w' => e = .returned (.bool true) ∧ Below w.heap.size w w' := by
  obtain ⟨k, h⟩ := P a0_0 a0_1 a1_0 a1_1 w0_0 w0_1 w1_0 w1_1
  refine (partitalaw01_RatioBack.calls k a0_0 a0_1 a1_0 a1_1 true w rfl hG_ h).mono ?_
  rintro e w' ⟨rfl, hd⟩
  exact ⟨rfl, hd⟩

end Go.Proofs.YtofolkbappinhaaDoor.M
