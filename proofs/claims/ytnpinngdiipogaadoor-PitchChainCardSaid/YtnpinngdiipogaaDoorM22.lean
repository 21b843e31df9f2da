-- Written by wip/mprint.py, this session's own program, over the translation. Lean checks it.
import Derived.Test.YtnpinngdiipogaaDoorM0
import Derived.Test.YtnpinngdiipogaaDoorM1
import Derived.Test.YtnpinngdiipogaaDoorM2
import Derived.Test.YtnpinngdiipogaaDoorM3
import Derived.Test.YtnpinngdiipogaaDoorM6
import Derived.Test.YtnpinngdiipogaaDoorM7
import Derived.Test.YtnpinngdiipogaaDoorM10
import Derived.Test.YtnpinngdiipogaaDoorM11
import Derived.Test.YtnpinngdiipogaaDoorM12
import Derived.Test.YtnpinngdiipogaaDoorGShort
namespace Go.Proofs.YtnpinngdiipogaaDoor.M
open Go.RowKit Go.Proofs.YtnpinngdiipogaaDoorW.PrintWords Go.Proofs.YtnpinngdiipogaaDoorW.PrintLast Go.Proofs.YtnpinngdiipogaaDoorW.PrintMore
attribute [local go_sem] max2_int min2_int max_two min_two max_three min_three max_four min_four   -- for this text's walks alone
set_option linter.unusedVariables false
set_option linter.unusedSimpArgs false

attribute [local go_sem high] eqA23 eqA25
/-! ### partitalaw02_PitchChain: function 7 -/
def partitalaw02_PitchChain.f (k : Nat) (a0_0 : Int) (a0_1 : Int) (a0_2 : Int) (a1_0 : Int) (a1_1 : Int) (a2_0 : Int) (a2_1 : Int) : Option (Bool) := (partitalaw02_awake.f k).bind fun t384 => ((partitalaw02_Pitch.f a0_0 a0_1 a0_2).bind fun bt385 => ((partitalaw02_pick.f a1_0 31).bind fun t389 => ((partitalaw02_pick.f a1_1 51).bind fun t390 => ((partitalaw02_pick.f a2_0 31).bind fun t392 => ((partitalaw02_pick.f a2_1 51).bind fun t393 => ((pitch_Up.f k bt385.1 bt385.2.1 bt385.2.2 (wrap64 (t389 - 15)) (wrap64 (t390 - 25))).bind fun bt395 => (if bt395.2.2.2 = 0 then ((pitch_Between.f k bt385.1 bt385.2.1 bt385.2.2 bt395.1 bt395.2.1 bt395.2.2.1).bind fun bt400 => ((pitch_Up.f k bt395.1 bt395.2.1 bt395.2.2.1 (wrap64 (t392 - 15)) (wrap64 (t393 - 25))).bind fun bt404 => ((pitch_Up.f k bt385.1 bt385.2.1 bt385.2.2 (wrap64 ((wrap64 (t389 - 15)) + (wrap64 (t392 - 15)))) (wrap64 ((wrap64 (t390 - 25)) + (wrap64 (t393 - 25))))).bind fun bt409 => (if t384 = true then (if bt400.2.2 = 0 then (if (bt400.1 == (wrap64 (t389 - 15)) && (bt400.2.1 == (wrap64 (t390 - 25)))) = true then (if bt404.2.2.2 = bt409.2.2.2 then (if (bt404.1 == bt409.1 && (bt404.2.1 == bt409.2.1 && (bt404.2.2.1 == bt409.2.2.1))) = true then ((pitch_Right.f bt395.1 bt395.2.1 bt395.2.2.1).bind fun t414 => (some t414)) else (some false)) else (some false)) else (some false)) else (some false)) else (some false))))) else (if t384 = true then (if bt395.2.2.2 = 20 then (some (bt395.1 == 0 && (bt395.2.1 == 0 && (bt395.2.2.1 == 0)))) else (some false)) else (some false)))))))))
theorem partitalaw02_PitchChain.mono : ∀ a0 a1 a2 a3 a4 a5 a6 k, LeO (partitalaw02_PitchChain.f k a0 a1 a2 a3 a4 a5 a6) (partitalaw02_PitchChain.f (k + 1) a0 a1 a2 a3 a4 a5 a6) := by
  intro a0 a1 a2 a3 a4 a5 a6 k
  unfold partitalaw02_PitchChain.f
  repeat' first
      | (with_reducible exact partitalaw02_awake.mono _)
      | (with_reducible exact pitch_Between.mono _ _ _ _ _ _ _)
      | (with_reducible exact pitch_Up.mono _ _ _ _ _ _)
      | (with_reducible exact LeO.refl _)
      | (with_reducible exact LeO.none _)
      | (with_reducible refine LeO.ite ?_ ?_)
      | (with_reducible refine LeO.bind ?_ (fun _ => ?_))
      | exact partitalaw02_awake.mono _
      | exact pitch_Between.mono _ _ _ _ _ _ _
      | exact pitch_Up.mono _ _ _ _ _ _
      | exact LeO.none _
      | refine LeO.ite ?_ ?_
      | refine LeO.bind ?_ (fun _ => ?_)
def partitalaw02_PitchChain.T3 : Bool × List (List Nat × List Nat) := (true, [([], []), ([0], [0]), ([1], [1]), ([2], [2]), ([], []), ([4], [4]), ([5, 2], [5]), ([6], [6]), ([3, 7], [3, 7]), ([], []), ([9, 8, 6, 0, 1, 2, 3, 4, 5, 6, 7, 8, 9], [8, 9])])
def partitalaw02_PitchChain.B3 : List Nat := [0, 1, 3, 7, 0, 16, 55, 119, 255, 0, 1023]
theorem partitalaw02_PitchChain.tab3 : rtab .any (opsOf Tryd.f7 3) = partitalaw02_PitchChain.T3 := by kernel_rfl
theorem partitalaw02_PitchChain.bits3 : waitsOk partitalaw02_PitchChain.T3.2 partitalaw02_PitchChain.B3 = true := by kernel_rfl
def partitalaw02_PitchChain.T4 : Bool × List (List Nat × List Nat) := (true, [([], []), ([0], [0]), ([1], [1]), ([2], [2]), ([], []), ([4], [4]), ([5, 2], [5]), ([6], [6]), ([3, 7], [3, 7]), ([], []), ([9, 8, 6, 0, 1, 2, 3, 4, 5, 6, 7, 8, 9], [8, 9])])
def partitalaw02_PitchChain.B4 : List Nat := [0, 1, 3, 7, 0, 16, 55, 119, 255, 0, 1023]
theorem partitalaw02_PitchChain.tab4 : rtab .any (opsOf Tryd.f7 4) = partitalaw02_PitchChain.T4 := by kernel_rfl
theorem partitalaw02_PitchChain.bits4 : waitsOk partitalaw02_PitchChain.T4.2 partitalaw02_PitchChain.B4 = true := by kernel_rfl
abbrev b0_b : Array Bool := #[false, false, false, false, false, false, false, false, false, false, false]
abbrev b1_b : Array Bool := #[true, false, false, false, false, false, false, false, false, false, false]
abbrev b2_b : Array Bool := #[true, false, false, false, true, false, false, false, false, false, false]
abbrev b3_b : Array Bool := #[true, true, false, false, true, false, false, false, false, false, false]
abbrev b4_b : Array Bool := #[true, true, false, false, true, true, false, false, false, false, false]
abbrev b5_b : Array Bool := #[true, true, true, true, true, true, true, true, true, true, false]
abbrev b6_b : Array Bool := #[true, true, true, false, true, true, false, false, false, false, false]
abbrev b7_b : Array Bool := #[true, true, false, false, true, true, false, false, false, true, false]
abbrev b8_b : Array Bool := #[true, true, true, true, true, true, false, false, false, false, false]
abbrev b9_b : Array Bool := #[true, true, true, true, true, true, true, false, false, false, false]
abbrev b10_b : Array Bool := #[true, true, true, true, true, true, false, false, false, true, false]
abbrev b11_b : Array Bool := #[true, true, true, true, true, true, true, true, false, false, false]
abbrev b12_b : Array Bool := #[true, true, true, true, true, true, true, true, true, false, false]
abbrev b13_b : Array Bool := #[true, true, true, true, true, true, true, false, false, true, false]
abbrev b14_b : Array Bool := #[true, true, true, true, true, true, true, true, false, true, false]
abbrev b15_b : Array Bool := #[true, true, true, false, true, true, false, false, false, true, false]
abbrev b16_b : Array Bool := #[true, true, true, true, true, true, true, true, true, true, true]
set_option maxHeartbeats 8000000 in
set_option maxRecDepth 100000 in
theorem partitalaw02_PitchChain.calls (k : Nat) (a0_0 : Int) (a0_1 : Int) (a0_2 : Int) (a1_0 : Int) (a1_1 : Int) (a2_0 : Int) (a2_1 : Int) (r : Bool) (w : World) (hr_ : r = true) (hG_ : GW w) (h : partitalaw02_PitchChain.f k a0_0 a0_1 a0_2 a1_0 a1_1 a2_0 a2_1 = some r) :
   Calls Tryd.prog 7 #[.agg #[.int .i64 a0_0, .int .i64 a0_1, .int .i64 a0_2], .agg #[.int .i64 a1_0, .int .i64 a1_1], .agg #[.int .i64 a2_0, .int .i64 a2_1]] w fun e w' => e = .returned (.bool r) ∧ Below w.heap.size w w' := by
  have hu23 := Tryd.underlying23
  have hu25 := Tryd.underlying25
  have HB := A0 (Below.refl w.heap.size w)
  have HR_ := A0 hr_
  clear hr_
  have HG_ := A0 hG_
  clear hG_
  have H : ((partitalaw02_awake.f k).bind fun t384 => ((partitalaw02_Pitch.f a0_0 a0_1 a0_2).bind fun bt385 => ((partitalaw02_pick.f a1_0 31).bind fun t389 => ((partitalaw02_pick.f a1_1 51).bind fun t390 => ((partitalaw02_pick.f a2_0 31).bind fun t392 => ((partitalaw02_pick.f a2_1 51).bind fun t393 => ((pitch_Up.f k bt385.1 bt385.2.1 bt385.2.2 (wrap64 (t389 - 15)) (wrap64 (t390 - 25))).bind fun bt395 => (if bt395.2.2.2 = 0 then ((pitch_Between.f k bt385.1 bt385.2.1 bt385.2.2 bt395.1 bt395.2.1 bt395.2.2.1).bind fun bt400 => ((pitch_Up.f k bt395.1 bt395.2.1 bt395.2.2.1 (wrap64 (t392 - 15)) (wrap64 (t393 - 25))).bind fun bt404 => ((pitch_Up.f k bt385.1 bt385.2.1 bt385.2.2 (wrap64 ((wrap64 (t389 - 15)) + (wrap64 (t392 - 15)))) (wrap64 ((wrap64 (t390 - 25)) + (wrap64 (t393 - 25))))).bind fun bt409 => (if t384 = true then (if bt400.2.2 = 0 then (if (bt400.1 == (wrap64 (t389 - 15)) && (bt400.2.1 == (wrap64 (t390 - 25)))) = true then (if bt404.2.2.2 = bt409.2.2.2 then (if (bt404.1 == bt409.1 && (bt404.2.1 == bt409.2.1 && (bt404.2.2.1 == bt409.2.2.1))) = true then ((pitch_Right.f bt395.1 bt395.2.1 bt395.2.2.1).bind fun t414 => (some t414)) else (some false)) else (some false)) else (some false)) else (some false)) else (some false))))) else (if t384 = true then (if bt395.2.2.2 = 20 then (some (bt395.1 == 0 && (bt395.2.1 == 0 && (bt395.2.2.1 == 0)))) else (some false)) else (some false)))))))))) = some r := h
  clear h
  replace H := Option.bind_eq_some_iff.mp H
  obtain ⟨t384, A40, H⟩ := H; replace H : ((partitalaw02_Pitch.f a0_0 a0_1 a0_2).bind fun bt385 => ((partitalaw02_pick.f a1_0 31).bind fun t389 => ((partitalaw02_pick.f a1_1 51).bind fun t390 => ((partitalaw02_pick.f a2_0 31).bind fun t392 => ((partitalaw02_pick.f a2_1 51).bind fun t393 => ((pitch_Up.f k bt385.1 bt385.2.1 bt385.2.2 (wrap64 (t389 - 15)) (wrap64 (t390 - 25))).bind fun bt395 => (if bt395.2.2.2 = 0 then ((pitch_Between.f k bt385.1 bt385.2.1 bt385.2.2 bt395.1 bt395.2.1 bt395.2.2.1).bind fun bt400 => ((pitch_Up.f k bt395.1 bt395.2.1 bt395.2.2.1 (wrap64 (t392 - 15)) (wrap64 (t393 - 25))).bind fun bt404 => ((pitch_Up.f k bt385.1 bt385.2.1 bt385.2.2 (wrap64 ((wrap64 (t389 - 15)) + (wrap64 (t392 - 15)))) (wrap64 ((wrap64 (t390 - 25)) + (wrap64 (t393 - 25))))).bind fun bt409 => (if t384 = true then (if bt400.2.2 = 0 then (if (bt400.1 == (wrap64 (t389 - 15)) && (bt400.2.1 == (wrap64 (t390 - 25)))) = true then (if bt404.2.2.2 = bt409.2.2.2 then (if (bt404.1 == bt409.1 && (bt404.2.1 == bt409.2.1 && (bt404.2.2.1 == bt409.2.2.1))) = true then ((pitch_Right.f bt395.1 bt395.2.1 bt395.2.2.1).bind fun t414 => (some t414)) else (some false)) else (some false)) else (some false)) else (some false)) else (some false))))) else (if t384 = true then (if bt395.2.2.2 = 20 then (some (bt395.1 == 0 && (bt395.2.1 == 0 && (bt395.2.2.1 == 0)))) else (some false)) else (some false))))))))) = some r := H; have A4 := A0 A40; clear A40
  replace H := Option.bind_eq_some_iff.mp H
  obtain ⟨⟨t385, t386, t387⟩, A50, H⟩ := H
  replace H : ((partitalaw02_pick.f a1_0 31).bind fun t389 => ((partitalaw02_pick.f a1_1 51).bind fun t390 => ((partitalaw02_pick.f a2_0 31).bind fun t392 => ((partitalaw02_pick.f a2_1 51).bind fun t393 => ((pitch_Up.f k t385 t386 t387 (wrap64 (t389 - 15)) (wrap64 (t390 - 25))).bind fun bt395 => (if bt395.2.2.2 = 0 then ((pitch_Between.f k t385 t386 t387 bt395.1 bt395.2.1 bt395.2.2.1).bind fun bt400 => ((pitch_Up.f k bt395.1 bt395.2.1 bt395.2.2.1 (wrap64 (t392 - 15)) (wrap64 (t393 - 25))).bind fun bt404 => ((pitch_Up.f k t385 t386 t387 (wrap64 ((wrap64 (t389 - 15)) + (wrap64 (t392 - 15)))) (wrap64 ((wrap64 (t390 - 25)) + (wrap64 (t393 - 25))))).bind fun bt409 => (if t384 = true then (if bt400.2.2 = 0 then (if (bt400.1 == (wrap64 (t389 - 15)) && (bt400.2.1 == (wrap64 (t390 - 25)))) = true then (if bt404.2.2.2 = bt409.2.2.2 then (if (bt404.1 == bt409.1 && (bt404.2.1 == bt409.2.1 && (bt404.2.2.1 == bt409.2.2.1))) = true then ((pitch_Right.f bt395.1 bt395.2.1 bt395.2.2.1).bind fun t414 => (some t414)) else (some false)) else (some false)) else (some false)) else (some false)) else (some false))))) else (if t384 = true then (if bt395.2.2.2 = 20 then (some (bt395.1 == 0 && (bt395.2.1 == 0 && (bt395.2.2.1 == 0)))) else (some false)) else (some false)))))))) = some r := H; have A5 := A0 A50; clear A50
  replace H := Option.bind_eq_some_iff.mp H
  obtain ⟨t389, A60, H⟩ := H; replace H : ((partitalaw02_pick.f a1_1 51).bind fun t390 => ((partitalaw02_pick.f a2_0 31).bind fun t392 => ((partitalaw02_pick.f a2_1 51).bind fun t393 => ((pitch_Up.f k t385 t386 t387 (wrap64 (t389 - 15)) (wrap64 (t390 - 25))).bind fun bt395 => (if bt395.2.2.2 = 0 then ((pitch_Between.f k t385 t386 t387 bt395.1 bt395.2.1 bt395.2.2.1).bind fun bt400 => ((pitch_Up.f k bt395.1 bt395.2.1 bt395.2.2.1 (wrap64 (t392 - 15)) (wrap64 (t393 - 25))).bind fun bt404 => ((pitch_Up.f k t385 t386 t387 (wrap64 ((wrap64 (t389 - 15)) + (wrap64 (t392 - 15)))) (wrap64 ((wrap64 (t390 - 25)) + (wrap64 (t393 - 25))))).bind fun bt409 => (if t384 = true then (if bt400.2.2 = 0 then (if (bt400.1 == (wrap64 (t389 - 15)) && (bt400.2.1 == (wrap64 (t390 - 25)))) = true then (if bt404.2.2.2 = bt409.2.2.2 then (if (bt404.1 == bt409.1 && (bt404.2.1 == bt409.2.1 && (bt404.2.2.1 == bt409.2.2.1))) = true then ((pitch_Right.f bt395.1 bt395.2.1 bt395.2.2.1).bind fun t414 => (some t414)) else (some false)) else (some false)) else (some false)) else (some false)) else (some false))))) else (if t384 = true then (if bt395.2.2.2 = 20 then (some (bt395.1 == 0 && (bt395.2.1 == 0 && (bt395.2.2.1 == 0)))) else (some false)) else (some false))))))) = some r := H; have A6 := A0 A60; clear A60
  replace H := Option.bind_eq_some_iff.mp H
  obtain ⟨t390, A70, H⟩ := H; replace H : ((partitalaw02_pick.f a2_0 31).bind fun t392 => ((partitalaw02_pick.f a2_1 51).bind fun t393 => ((pitch_Up.f k t385 t386 t387 (wrap64 (t389 - 15)) (wrap64 (t390 - 25))).bind fun bt395 => (if bt395.2.2.2 = 0 then ((pitch_Between.f k t385 t386 t387 bt395.1 bt395.2.1 bt395.2.2.1).bind fun bt400 => ((pitch_Up.f k bt395.1 bt395.2.1 bt395.2.2.1 (wrap64 (t392 - 15)) (wrap64 (t393 - 25))).bind fun bt404 => ((pitch_Up.f k t385 t386 t387 (wrap64 ((wrap64 (t389 - 15)) + (wrap64 (t392 - 15)))) (wrap64 ((wrap64 (t390 - 25)) + (wrap64 (t393 - 25))))).bind fun bt409 => (if t384 = true then (if bt400.2.2 = 0 then (if (bt400.1 == (wrap64 (t389 - 15)) && (bt400.2.1 == (wrap64 (t390 - 25)))) = true then (if bt404.2.2.2 = bt409.2.2.2 then (if (bt404.1 == bt409.1 && (bt404.2.1 == bt409.2.1 && (bt404.2.2.1 == bt409.2.2.1))) = true then ((pitch_Right.f bt395.1 bt395.2.1 bt395.2.2.1).bind fun t414 => (some t414)) else (some false)) else (some false)) else (some false)) else (some false)) else (some false))))) else (if t384 = true then (if bt395.2.2.2 = 20 then (some (bt395.1 == 0 && (bt395.2.1 == 0 && (bt395.2.2.1 == 0)))) else (some false)) else (some false)))))) = some r := H; have A7 := A0 A70; clear A70
  replace H := Option.bind_eq_some_iff.mp H
  obtain ⟨t392, A80, H⟩ := H; replace H : ((partitalaw02_pick.f a2_1 51).bind fun t393 => ((pitch_Up.f k t385 t386 t387 (wrap64 (t389 - 15)) (wrap64 (t390 - 25))).bind fun bt395 => (if bt395.2.2.2 = 0 then ((pitch_Between.f k t385 t386 t387 bt395.1 bt395.2.1 bt395.2.2.1).bind fun bt400 => ((pitch_Up.f k bt395.1 bt395.2.1 bt395.2.2.1 (wrap64 (t392 - 15)) (wrap64 (t393 - 25))).bind fun bt404 => ((pitch_Up.f k t385 t386 t387 (wrap64 ((wrap64 (t389 - 15)) + (wrap64 (t392 - 15)))) (wrap64 ((wrap64 (t390 - 25)) + (wrap64 (t393 - 25))))).bind fun bt409 => (if t384 = true then (if bt400.2.2 = 0 then (if (bt400.1 == (wrap64 (t389 - 15)) && (bt400.2.1 == (wrap64 (t390 - 25)))) = true then (if bt404.2.2.2 = bt409.2.2.2 then (if (bt404.1 == bt409.1 && (bt404.2.1 == bt409.2.1 && (bt404.2.2.1 == bt409.2.2.1))) = true then ((pitch_Right.f bt395.1 bt395.2.1 bt395.2.2.1).bind fun t414 => (some t414)) else (some false)) else (some false)) else (some false)) else (some false)) else (some false))))) else (if t384 = true then (if bt395.2.2.2 = 20 then (some (bt395.1 == 0 && (bt395.2.1 == 0 && (bt395.2.2.1 == 0)))) else (some false)) else (some false))))) = some r := H; have A8 := A0 A80; clear A80
  replace H := Option.bind_eq_some_iff.mp H
  obtain ⟨t393, A90, H⟩ := H; replace H : ((pitch_Up.f k t385 t386 t387 (wrap64 (t389 - 15)) (wrap64 (t390 - 25))).bind fun bt395 => (if bt395.2.2.2 = 0 then ((pitch_Between.f k t385 t386 t387 bt395.1 bt395.2.1 bt395.2.2.1).bind fun bt400 => ((pitch_Up.f k bt395.1 bt395.2.1 bt395.2.2.1 (wrap64 (t392 - 15)) (wrap64 (t393 - 25))).bind fun bt404 => ((pitch_Up.f k t385 t386 t387 (wrap64 ((wrap64 (t389 - 15)) + (wrap64 (t392 - 15)))) (wrap64 ((wrap64 (t390 - 25)) + (wrap64 (t393 - 25))))).bind fun bt409 => (if t384 = true then (if bt400.2.2 = 0 then (if (bt400.1 == (wrap64 (t389 - 15)) && (bt400.2.1 == (wrap64 (t390 - 25)))) = true then (if bt404.2.2.2 = bt409.2.2.2 then (if (bt404.1 == bt409.1 && (bt404.2.1 == bt409.2.1 && (bt404.2.2.1 == bt409.2.2.1))) = true then ((pitch_Right.f bt395.1 bt395.2.1 bt395.2.2.1).bind fun t414 => (some t414)) else (some false)) else (some false)) else (some false)) else (some false)) else (some false))))) else (if t384 = true then (if bt395.2.2.2 = 20 then (some (bt395.1 == 0 && (bt395.2.1 == 0 && (bt395.2.2.1 == 0)))) else (some false)) else (some false)))) = some r := H; have A9 := A0 A90; clear A90
  replace H := Option.bind_eq_some_iff.mp H
  obtain ⟨⟨t395, t396, t397, t398⟩, A100, H⟩ := H
  replace H : (if t398 = 0 then ((pitch_Between.f k t385 t386 t387 t395 t396 t397).bind fun bt400 => ((pitch_Up.f k t395 t396 t397 (wrap64 (t392 - 15)) (wrap64 (t393 - 25))).bind fun bt404 => ((pitch_Up.f k t385 t386 t387 (wrap64 ((wrap64 (t389 - 15)) + (wrap64 (t392 - 15)))) (wrap64 ((wrap64 (t390 - 25)) + (wrap64 (t393 - 25))))).bind fun bt409 => (if t384 = true then (if bt400.2.2 = 0 then (if (bt400.1 == (wrap64 (t389 - 15)) && (bt400.2.1 == (wrap64 (t390 - 25)))) = true then (if bt404.2.2.2 = bt409.2.2.2 then (if (bt404.1 == bt409.1 && (bt404.2.1 == bt409.2.1 && (bt404.2.2.1 == bt409.2.2.1))) = true then ((pitch_Right.f t395 t396 t397).bind fun t414 => (some t414)) else (some false)) else (some false)) else (some false)) else (some false)) else (some false))))) else (if t384 = true then (if t398 = 20 then (some (t395 == 0 && (t396 == 0 && (t397 == 0)))) else (some false)) else (some false))) = some r := H; have A10 := A0 A100; clear A100
  by_cases c11 : t398 = 0
  ·rw [if_pos c11] at H
   have c11b0 : (t398 == 0) = true := beq_iff_eq.mpr c11
   have c11b1 : (t398 != 0) = false := bne_eq_false_iff_eq.mpr c11
   clear c11
   replace H := Option.bind_eq_some_iff.mp H
   obtain ⟨⟨t400, t401, t402⟩, A120, H⟩ := H
   replace H : ((pitch_Up.f k t395 t396 t397 (wrap64 (t392 - 15)) (wrap64 (t393 - 25))).bind fun bt404 => ((pitch_Up.f k t385 t386 t387 (wrap64 ((wrap64 (t389 - 15)) + (wrap64 (t392 - 15)))) (wrap64 ((wrap64 (t390 - 25)) + (wrap64 (t393 - 25))))).bind fun bt409 => (if t384 = true then (if t402 = 0 then (if (t400 == (wrap64 (t389 - 15)) && (t401 == (wrap64 (t390 - 25)))) = true then (if bt404.2.2.2 = bt409.2.2.2 then (if (bt404.1 == bt409.1 && (bt404.2.1 == bt409.2.1 && (bt404.2.2.1 == bt409.2.2.1))) = true then ((pitch_Right.f t395 t396 t397).bind fun t414 => (some t414)) else (some false)) else (some false)) else (some false)) else (some false)) else (some false)))) = some r := H; have A12 := A0 A120; clear A120
   replace H := Option.bind_eq_some_iff.mp H
   obtain ⟨⟨t404, t405, t406, t407⟩, A130, H⟩ := H
   replace H : ((pitch_Up.f k t385 t386 t387 (wrap64 ((wrap64 (t389 - 15)) + (wrap64 (t392 - 15)))) (wrap64 ((wrap64 (t390 - 25)) + (wrap64 (t393 - 25))))).bind fun bt409 => (if t384 = true then (if t402 = 0 then (if (t400 == (wrap64 (t389 - 15)) && (t401 == (wrap64 (t390 - 25)))) = true then (if t407 = bt409.2.2.2 then (if (t404 == bt409.1 && (t405 == bt409.2.1 && (t406 == bt409.2.2.1))) = true then ((pitch_Right.f t395 t396 t397).bind fun t414 => (some t414)) else (some false)) else (some false)) else (some false)) else (some false)) else (some false))) = some r := H; have A13 := A0 A130; clear A130
   replace H := Option.bind_eq_some_iff.mp H
   obtain ⟨⟨t409, t410, t411, t412⟩, A140, H⟩ := H
   replace H : (if t384 = true then (if t402 = 0 then (if (t400 == (wrap64 (t389 - 15)) && (t401 == (wrap64 (t390 - 25)))) = true then (if t407 = t412 then (if (t404 == t409 && (t405 == t410 && (t406 == t411))) = true then ((pitch_Right.f t395 t396 t397).bind fun t414 => (some t414)) else (some false)) else (some false)) else (some false)) else (some false)) else (some false)) = some r := H; have A14 := A0 A140; clear A140
   by_cases c15 : t384 = true
   ·subst c15
    have H1 : (if t402 = 0 then (if (t400 == (wrap64 (t389 - 15)) && (t401 == (wrap64 (t390 - 25)))) = true then (if t407 = t412 then (if (t404 == t409 && (t405 == t410 && (t406 == t411))) = true then ((pitch_Right.f t395 t396 t397).bind fun t414 => (some t414)) else (some false)) else (some false)) else (some false)) else (some false)) = some r := by rw [if_pos rfl] at H; exact H
    clear H; have H := H1; clear H1
    by_cases c16 : t402 = 0
    ·rw [if_pos c16] at H
     have c16b0 : (t402 == 0) = true := beq_iff_eq.mpr c16
     have c16b1 : (t402 != 0) = false := bne_eq_false_iff_eq.mpr c16
     clear c16
     by_cases c17 : (t400 == (wrap64 (t389 - 15)) && (t401 == (wrap64 (t390 - 25)))) = true
     ·rw [if_pos c17] at H
      have c17b0 : (t400 == (wrap64 (t389 - 15)) && (t401 == (wrap64 (t390 - 25)))) = true := c17
      (try (have c17b1 : decide (t400 = (wrap64 (t389 - 15)) && (t401 == (wrap64 (t390 - 25)))) = true := by simpa using c17))
      (try (have c17b2 : (t400 == (wrap64 (t389 - 15)) && (t401 == (wrap64 (t390 - 25)))) = true := by simpa using c17))
      clear c17
      by_cases c18 : t407 = t412
      ·rw [if_pos c18] at H
       have c18b0 : (t407 == t412) = true := beq_iff_eq.mpr c18
       have c18b1 : (t407 != t412) = false := bne_eq_false_iff_eq.mpr c18
       clear c18
       by_cases c19 : (t404 == t409 && (t405 == t410 && (t406 == t411))) = true
       ·rw [if_pos c19] at H
        have c19b0 : (t404 == t409 && (t405 == t410 && (t406 == t411))) = true := c19
        (try (have c19b1 : decide (t404 = t409 && (t405 == t410 && (t406 == t411))) = true := by simpa using c19))
        (try (have c19b2 : (t404 == t409 && (t405 == t410 && (t406 == t411))) = true := by simpa using c19))
        clear c19
        replace H := Option.bind_eq_some_iff.mp H
        obtain ⟨t414, A200, H⟩ := H; replace H : (some t414) = some r := H; have A20 := A0 A200; clear A200
        obtain rfl := Option.some.inj H
        go_enter Tryd.func7, Tryd.ntmps7
        try go_wp2_with (first | ((with_reducible refine gate_dst (N := 3) rfl ?_); refine box_event ?hg (N := 3) ?hd (cs := #[.int .i64 a0_0, .int .i64 a0_1, .int .i64 a0_2]) (t := 23) ?hr ?_; (case hd => rfl); (case hg => rfl); (case hr => go_simp); intro gb381 hg w21 hbox hb; have n0_ := A0 (below_step ww hb); have n1_ := A0 (hbox); have n2_ := A0 ((by rw [hg]; exact (below_size ww) : w.heap.size ≤ gb381)); have n3_ := n2_; clear HB; have HB := n0_; have BK381 := n1_; have GW381 := n2_; have GE381 := n3_; clear n0_ n1_ n2_ n3_; clear hb hbox hg) | ((with_reducible refine gate_dst (N := 4) rfl ?_); refine box_event ?hg (N := 4) ?hd (cs := #[.int .i64 a1_0, .int .i64 a1_1]) (t := 25) ?hr ?_; (case hd => rfl); (case hg => rfl); (case hr => go_simp); intro gb382 hg w22 hbox hb; have n0_ := A0 (blk_below (zz BK381) hb); have n1_ := A0 (below_step ww hb); have n2_ := A0 (hbox); have n3_ := A0 ((by rw [hg]; exact (below_size ww) : w.heap.size ≤ gb382)); have n4_ := n3_; have n5_ := A0 ((by rw [hg]; exact Nat.ne_of_lt (blk_lt (zz BK381)) : gb381 ≠ gb382)); have n6_ := A0 n5_.out.symm; clear BK381; clear HB; have BK381 := n0_; have HB := n1_; have BK382 := n2_; have GW382 := n3_; have GE382 := n4_; have NB381_382 := n5_; have NB382_381 := n6_; clear n0_ n1_ n2_ n3_ n4_ n5_ n6_; clear hb hbox hg) | ((with_reducible refine gate_dst (N := 5) rfl ?_); refine box_event ?hg (N := 5) ?hd (cs := #[.int .i64 a2_0, .int .i64 a2_1]) (t := 25) ?hr ?_; (case hd => rfl); (case hg => rfl); (case hr => go_simp); intro gb383 hg w23 hbox hb; have n0_ := A0 (blk_below (zz BK381) hb); have n1_ := A0 (blk_below (zz BK382) hb); have n2_ := A0 (below_step ww hb); have n3_ := A0 (hbox); have n4_ := A0 ((by rw [hg]; exact (below_size ww) : w.heap.size ≤ gb383)); have n5_ := n4_; have n6_ := A0 ((by rw [hg]; exact Nat.ne_of_lt (blk_lt (zz BK381)) : gb381 ≠ gb383)); have n7_ := A0 n6_.out.symm; have n8_ := A0 ((by rw [hg]; exact Nat.ne_of_lt (blk_lt (zz BK382)) : gb382 ≠ gb383)); have n9_ := A0 n8_.out.symm; clear BK381; clear BK382; clear HB; have BK381 := n0_; have BK382 := n1_; have HB := n2_; have BK383 := n3_; have GW383 := n4_; have GE383 := n5_; have NB381_383 := n6_; have NB383_381 := n7_; have NB382_383 := n8_; have NB383_382 := n9_; clear n0_ n1_ n2_ n3_ n4_ n5_ n6_ n7_ n8_ n9_; clear hb hbox hg) | ((with_reducible refine gate_callee (f := 12) rfl ?_); refine goesL_ (some 19) rfl rfl Tryd.func12 (by kernel_rfl) rfl #[] rfl (by (try simp only [List.map_toArray, List.map_cons, List.map_nil]); first | done | rfl) ?_; (with_reducible refine (partitalaw02_awake.calls k  true _ ?side1 A4.out).mono ?_); (case side1 => exact GW.step HG_.out (by repeat (first | (with_reducible first | exact HB.out | apply below_alloc | apply pw_below_drewN | apply below_drew1 | refine below_set ?_ GE381.out | refine below_set ?_ GE382.out | refine below_set ?_ GE383.out) | exact HB.out))); rintro e w24 ⟨rfl, hb⟩; refine ⟨_, rfl, ?_⟩; have n0_ := A0 (blk_below (zz BK381) hb); have n1_ := A0 (blk_below (zz BK382) hb); have n2_ := A0 (blk_below (zz BK383) hb); have n3_ := A0 (below_step ww hb); clear BK381; clear BK382; clear BK383; clear HB; have BK381 := n0_; have BK382 := n1_; have BK383 := n2_; have HB := n3_; clear n0_ n1_ n2_ n3_; (try clear hb); have hnb25 := NB381_382.out; have hnc25 := NB382_381.out; have hnb26 := NB381_383.out; have hnc26 := NB383_381.out; have hcz27_0 : w24.cell? ⟨gb381, 0, none⟩ = some (.int .i64 a0_0) := (blk_cell BK381.out 0).trans rfl; have hcz27_1 : w24.cell? ⟨gb381, 1, none⟩ = some (.int .i64 a0_1) := (blk_cell BK381.out 1).trans rfl; have hcz27_2 : w24.cell? ⟨gb381, 2, none⟩ = some (.int .i64 a0_2) := (blk_cell BK381.out 2).trans rfl; have hfz27_0 := blk_frozen BK381.out 0; have hfz27_1 := blk_frozen BK381.out 1; have hfz27_2 := blk_frozen BK381.out 2) | ((with_reducible refine gate_callee (f := 13) rfl ?_); refine goesL_ (some 21) rfl rfl Tryd.func13 (by kernel_rfl) rfl #[.agg #[.int .i64 a0_0, .int .i64 a0_1, .int .i64 a0_2]] rfl (by (try simp only [List.map_toArray, List.map_cons, List.map_nil]); first | done | rfl) ?_; (with_reducible refine (partitalaw02_Pitch.calls a0_0 a0_1 a0_2 t385 t386 t387 _ A5.out).mono ?_); rintro e w28 ⟨rfl, hb⟩; refine ⟨_, rfl, ?_⟩; have n0_ := A0 (blk_below (zz BK381) hb); have n1_ := A0 (blk_below (zz BK382) hb); have n2_ := A0 (blk_below (zz BK383) hb); have n3_ := A0 (below_step ww hb); clear BK381; clear BK382; clear BK383; clear HB; have BK381 := n0_; have BK382 := n1_; have BK383 := n2_; have HB := n3_; clear n0_ n1_ n2_ n3_; (try clear hb)) | ((with_reducible refine gate_dst (N := 8) rfl ?_); refine box_event ?hg (N := 8) ?hd (cs := #[.int .i64 0, .int .i64 0, .int .i64 0]) (t := 23) ?hr ?_; (case hd => rfl); (case hg => rfl); (case hr => go_simp); intro gb388 hg w29 hbox hb; have n0_ := A0 (blk_below (zz BK381) hb); have n1_ := A0 (blk_below (zz BK382) hb); have n2_ := A0 (blk_below (zz BK383) hb); have n3_ := A0 (below_step ww hb); have n4_ := A0 (hbox); have n5_ := A0 ((by rw [hg]; exact (below_size ww) : w.heap.size ≤ gb388)); have n6_ := n5_; have n7_ := A0 ((by rw [hg]; exact Nat.ne_of_lt (blk_lt (zz BK381)) : gb381 ≠ gb388)); have n8_ := A0 n7_.out.symm; have n9_ := A0 ((by rw [hg]; exact Nat.ne_of_lt (blk_lt (zz BK382)) : gb382 ≠ gb388)); have n10_ := A0 n9_.out.symm; have n11_ := A0 ((by rw [hg]; exact Nat.ne_of_lt (blk_lt (zz BK383)) : gb383 ≠ gb388)); have n12_ := A0 n11_.out.symm; clear BK381; clear BK382; clear BK383; clear HB; have BK381 := n0_; have BK382 := n1_; have BK383 := n2_; have HB := n3_; have BK388 := n4_; have GW388 := n5_; have GE388 := n6_; have NB381_388 := n7_; have NB388_381 := n8_; have NB382_388 := n9_; have NB388_382 := n10_; have NB383_388 := n11_; have NB388_383 := n12_; clear n0_ n1_ n2_ n3_ n4_ n5_ n6_ n7_ n8_ n9_ n10_ n11_ n12_; clear hb hbox hg; have hnb30 := NB388_381.out; have hnc30 := NB381_388.out; have hnb31 := NB388_382.out; have hnc31 := NB382_388.out; have hnb32 := NB388_383.out; have hnc32 := NB383_388.out; have hcz33_0 : w29.cell? ⟨gb388, 0, none⟩ = some (.int .i64 0) := (blk_cell BK388.out 0).trans rfl; have hcz33_1 : w29.cell? ⟨gb388, 1, none⟩ = some (.int .i64 0) := (blk_cell BK388.out 1).trans rfl; have hcz33_2 : w29.cell? ⟨gb388, 2, none⟩ = some (.int .i64 0) := (blk_cell BK388.out 2).trans rfl; have hfz33_0 := blk_frozen BK388.out 0; have hfz33_1 := blk_frozen BK388.out 1; have hfz33_2 := blk_frozen BK388.out 2))
        have n0_ : Aside0 ((((w29.setCell ⟨gb388, 0, none⟩ (.int .i64 t385)).setCell ⟨gb388, 1, none⟩ (.int .i64 t386)).setCell ⟨gb388, 2, none⟩ (.int .i64 t387)).heap[gb381]? = some (.cells #[.int .i64 a0_0, .int .i64 a0_1, .int .i64 a0_2] 23 (0, 0))) := ⟨zz BK381⟩
        have n1_ : Aside0 ((((w29.setCell ⟨gb388, 0, none⟩ (.int .i64 t385)).setCell ⟨gb388, 1, none⟩ (.int .i64 t386)).setCell ⟨gb388, 2, none⟩ (.int .i64 t387)).heap[gb382]? = some (.cells #[.int .i64 a1_0, .int .i64 a1_1] 25 (0, 0))) := ⟨zz BK382⟩
        have n2_ : Aside0 ((((w29.setCell ⟨gb388, 0, none⟩ (.int .i64 t385)).setCell ⟨gb388, 1, none⟩ (.int .i64 t386)).setCell ⟨gb388, 2, none⟩ (.int .i64 t387)).heap[gb383]? = some (.cells #[.int .i64 a2_0, .int .i64 a2_1] 25 (0, 0))) := ⟨zz BK383⟩
        have n3_ : Aside0 ((((w29.setCell ⟨gb388, 0, none⟩ (.int .i64 t385)).setCell ⟨gb388, 1, none⟩ (.int .i64 t386)).setCell ⟨gb388, 2, none⟩ (.int .i64 t387)).heap[gb388]? = some (.cells #[.int .i64 t385, .int .i64 t386, .int .i64 t387] 23 (0, 0))) := ⟨by (with_reducible repeat (first | refine bN ?_ _ | refine bD ?_ | refine bA ?_ _)); refine blk_put (cs := #[.int .i64 t385, .int .i64 t386, .int .i64 0]) ?_ 2 _ rfl; (with_reducible repeat (first | refine bN ?_ _ | refine bD ?_ | refine bA ?_ _)); refine blk_put (cs := #[.int .i64 t385, .int .i64 0, .int .i64 0]) ?_ 1 _ rfl; (with_reducible repeat (first | refine bN ?_ _ | refine bD ?_ | refine bA ?_ _)); refine blk_put (cs := #[.int .i64 0, .int .i64 0, .int .i64 0]) ?_ 0 _ rfl; (with_reducible repeat (first | refine bN ?_ _ | refine bD ?_ | refine bA ?_ _)); exact BK388.out⟩
        have n4_ : Aside0 (Below w.heap.size w (((w29.setCell ⟨gb388, 0, none⟩ (.int .i64 t385)).setCell ⟨gb388, 1, none⟩ (.int .i64 t386)).setCell ⟨gb388, 2, none⟩ (.int .i64 t387))) := ⟨by repeat (first | (with_reducible first | exact HB.out | apply below_alloc | apply pw_below_drewN | apply below_drew1 | refine below_set ?_ GE381.out | refine below_set ?_ GE382.out | refine below_set ?_ GE383.out | refine below_set ?_ GE388.out) | exact HB.out)⟩
        (try clear BK381); (try clear BK382); (try clear BK383); (try clear BK388); (try clear HB)
        generalize (((w29.setCell ⟨gb388, 0, none⟩ (.int .i64 t385)).setCell ⟨gb388, 1, none⟩ (.int .i64 t386)).setCell ⟨gb388, 2, none⟩ (.int .i64 t387)) = w34 at n0_ n1_ n2_ n3_ n4_ ⊢
        have BK381 := n0_; have BK382 := n1_; have BK383 := n2_; have BK388 := n3_; have HB := n4_; clear n0_ n1_ n2_ n3_ n4_; have n0_ := A0 (blk_drew BK381.out); have n1_ := A0 (blk_drew BK382.out); have n2_ := A0 (blk_drew BK383.out); have n3_ := A0 (blk_drew BK388.out); have n4_ := A0 (below_drew1 HB.out); clear BK381; clear BK382; clear BK383; clear BK388; clear HB; have BK381 := n0_; have BK382 := n1_; have BK383 := n2_; have BK388 := n3_; have HB := n4_; clear n0_ n1_ n2_ n3_ n4_
        refine start_ (n := 11) (S := fun w' => w'.cell? ⟨gb382, 0, none⟩ = some (.int .i64 a1_0) ∧ w'.cell? ⟨gb382, 1, none⟩ = some (.int .i64 a1_1)) (ds := []) b0_b (by kernel_rfl) rfl rfl ⟨(blk_cell BK382.out 0).trans rfl, (blk_cell BK382.out 1).trans rfl⟩ (fun hHeld => ?_); refine with_tabW partitalaw02_PitchChain.tab3 partitalaw02_PitchChain.bits3 (fun HT_ HW_ => ?_)
        generalize w34.drew = w35 at BK381 BK382 BK383 BK388 HB hHeld ⊢
        refine pure_ (i := 0) (N := some 22) (v := ?_) (a' := ?_) b1_b rfl rfl (any_of HT_.out (by kernel_rfl)) (fun _ _ _ h => h) (Or.inl ⟨by rfl, ?_⟩) ?_ ?_
        rotate_left
        ·intro w'; go_simp; with_reducible rfl
        rotate_left
        ·simp only [Act.put, q1, q2, q3, i64_w, i32_w]; rfl
        refine pure_ (i := 4) (N := some 26) (v := ?_) (a' := ?_) b2_b rfl rfl (any_of HT_.out (by kernel_rfl)) (fun _ _ _ h => h) (Or.inl ⟨by rfl, ?_⟩) ?_ ?_
        rotate_left
        ·intro w'; go_simp; with_reducible rfl
        rotate_left
        ·simp only [Act.put, q1, q2, q3, i64_w, i32_w]; rfl
        refine take_ (i := 1) (N := some 23) (v := ?_) (a' := ?_) b3_b rfl rfl (take_ofW HT_.out HW_.out (by kernel_rfl)) (fun _ _ _ h => h) (Or.inl ⟨by rfl, ?_⟩) hHeld ?_ ?_
        rotate_left
        ·rintro w' ⟨s0, s1⟩
         go_simp; with_reducible rfl
        rotate_left
        ·simp only [Act.put, q1, q2, q3, i64_w, i32_w]; rfl
        refine take_ (i := 5) (N := some 27) (v := ?_) (a' := ?_) b4_b rfl rfl (take_ofW HT_.out HW_.out (by kernel_rfl)) (fun _ _ _ h => h) (Or.inl ⟨by rfl, ?_⟩) hHeld ?_ ?_
        rotate_left
        ·rintro w' ⟨s0, s1⟩
         go_simp; with_reducible rfl
        rotate_left
        ·simp only [Act.put, q1, q2, q3, i64_w, i32_w]; rfl
        refine join_ (σ := Nat) 1 b5_b (fun s_ => [(24, .int .i64 t389), (28, .int .i64 t390), (9, .pointer (some ⟨s_, 0, none⟩)), (25, .int .i64 (wrap64 (t389 - 15))), (29, .int .i64 (wrap64 (t390 - 25))), (30, .agg #[.int .i64 (wrap64 (t389 - 15)), .int .i64 (wrap64 (t390 - 25))])]) (fun s_ w' => (w'.cell? ⟨gb382, 0, none⟩ = some (.int .i64 a1_0) ∧ w'.cell? ⟨gb382, 1, none⟩ = some (.int .i64 a1_1)) ∧ (w'.heap[gb381]? = some (.cells #[.int .i64 a0_0, .int .i64 a0_1, .int .i64 a0_2] 23 (0, 0))) ∧ (w'.heap[gb382]? = some (.cells #[.int .i64 a1_0, .int .i64 a1_1] 25 (0, 0))) ∧ (w'.heap[gb383]? = some (.cells #[.int .i64 a2_0, .int .i64 a2_1] 25 (0, 0))) ∧ (w'.heap[gb388]? = some (.cells #[.int .i64 t385, .int .i64 t386, .int .i64 t387] 23 (0, 0))) ∧ (w'.heap[s_]? = some (.cells #[.int .i64 0, .int .i64 0] 25 (0, 0))) ∧ (w.heap.size ≤ s_) ∧ (w.heap.size ≤ s_) ∧ (gb381 ≠ s_) ∧ (s_ ≠ gb381) ∧ (gb382 ≠ s_) ∧ (s_ ≠ gb382) ∧ (gb383 ≠ s_) ∧ (s_ ≠ gb383) ∧ (gb388 ≠ s_) ∧ (s_ ≠ gb388) ∧ (Below w.heap.size w w')) ?_ ?_
        rotate_left
        ·intro hCont
         refine two_ (i := 2) (j := 9) (Ni := some 24) (Nj := some 9) b6_b b7_b rfl rfl rfl rfl (two_of HT_.out (by kernel_rfl)) (by decide) (by decide) (fun K hK => ?_) (fun K hK => ?_)
         ·skip
          refine goes_ Tryd.func22 (by kernel_rfl) rfl #[.int .i64 a1_0, .int .i64 31] (by rfl) rfl rfl (by (try simp only [List.map_toArray, List.map_cons, List.map_nil]); first | done | rfl) ?_
          with_reducible refine (partitalaw02_pick.calls a1_0 31 t389 _ A6.out).mono ?_
          rintro e w' ⟨rfl, ⟨nd, rfl⟩⟩
          refine ⟨_, rfl, ?_⟩
          refine hK.out _ _ ⟨(blk_cell BK382.out 0).trans rfl, (blk_cell BK382.out 1).trans rfl⟩ (fun hHeld => ?_)
          clear hK K
          refine norm_ (a' := ?_) ?_ ?_
          rotate_left
          ·show Act.put _ (some 24) _ = _
           simp only [Act.put, q1, q2, q3, i64_w, i32_w]; rfl
          refine pure_ (i := 3) (N := some 25) (v := ?_) (a' := ?_) b8_b rfl rfl (any_of HT_.out (by kernel_rfl)) (fun _ _ _ h => h) (Or.inl ⟨by rfl, ?_⟩) ?_ ?_
          rotate_left
          ·intro w'; go_simp; with_reducible rfl
          rotate_left
          ·simp only [Act.put, q1, q2, q3, i64_w, i32_w]; rfl
          refine two_ (i := 6) (j := 9) (Ni := some 28) (Nj := some 9) b9_b b10_b rfl rfl rfl rfl (two_of HT_.out (by kernel_rfl)) (by decide) (by decide) (fun K hK => ?_) (fun K hK => ?_)
          ·skip
           refine goes_ Tryd.func22 (by kernel_rfl) rfl #[.int .i64 a1_1, .int .i64 51] (by rfl) rfl rfl (by (try simp only [List.map_toArray, List.map_cons, List.map_nil]); first | done | rfl) ?_
           with_reducible refine (partitalaw02_pick.calls a1_1 51 t390 _ A7.out).mono ?_
           rintro e w' ⟨rfl, ⟨nd, rfl⟩⟩
           refine ⟨_, rfl, ?_⟩
           refine hK.out _ _ ⟨(blk_cell BK382.out 0).trans rfl, (blk_cell BK382.out 1).trans rfl⟩ (fun hHeld => ?_)
           clear hK K
           refine norm_ (a' := ?_) ?_ ?_
           rotate_left
           ·show Act.put _ (some 28) _ = _
            simp only [Act.put, q1, q2, q3, i64_w, i32_w]; rfl
           refine pure_ (i := 7) (N := some 29) (v := ?_) (a' := ?_) b11_b rfl rfl (any_of HT_.out (by kernel_rfl)) (fun _ _ _ h => h) (Or.inl ⟨by rfl, ?_⟩) ?_ ?_
           rotate_left
           ·intro w'; go_simp; with_reducible rfl
           rotate_left
           ·simp only [Act.put, q1, q2, q3, i64_w, i32_w]; rfl
           refine pure_ (i := 8) (N := some 30) (v := ?_) (a' := ?_) b12_b rfl rfl (any_of HT_.out (by kernel_rfl)) (fun _ _ _ h => h) (Or.inl ⟨by rfl, ?_⟩) ?_ ?_
           rotate_left
           ·intro w'; go_simp; with_reducible rfl
           rotate_left
           ·simp only [Act.put, q1, q2, q3, i64_w, i32_w]; rfl
           refine one_ (i := 9) (N := some 9) b5_b rfl rfl (one_of HT_.out (by kernel_rfl)) (by decide) (fun K hK => ?_)
           refine box_step ?hg (N := 9) ?hd (cs := #[.int .i64 0, .int .i64 0]) (t := 25) ?hr ?_; (case hd => rfl); (case hg => rfl); (case hr => go_simp)
           intro gb391 hg w36 hbox hb; have n0_ := A0 (blk_below (zz BK381) hb); have n1_ := A0 (blk_below (zz BK382) hb); have n2_ := A0 (blk_below (zz BK383) hb); have n3_ := A0 (blk_below (zz BK388) hb); have n4_ := A0 (below_step ww hb); have n5_ := A0 (hbox); have n6_ := A0 ((by rw [hg]; exact (below_size ww) : w.heap.size ≤ gb391)); have n7_ := n6_; have n8_ := A0 ((by rw [hg]; exact Nat.ne_of_lt (blk_lt (zz BK381)) : gb381 ≠ gb391)); have n9_ := A0 n8_.out.symm; have n10_ := A0 ((by rw [hg]; exact Nat.ne_of_lt (blk_lt (zz BK382)) : gb382 ≠ gb391)); have n11_ := A0 n10_.out.symm; have n12_ := A0 ((by rw [hg]; exact Nat.ne_of_lt (blk_lt (zz BK383)) : gb383 ≠ gb391)); have n13_ := A0 n12_.out.symm; have n14_ := A0 ((by rw [hg]; exact Nat.ne_of_lt (blk_lt (zz BK388)) : gb388 ≠ gb391)); have n15_ := A0 n14_.out.symm; clear BK381; clear BK382; clear BK383; clear BK388; clear HB; have BK381 := n0_; have BK382 := n1_; have BK383 := n2_; have BK388 := n3_; have HB := n4_; have BK391 := n5_; have GW391 := n6_; have GE391 := n7_; have NB381_391 := n8_; have NB391_381 := n9_; have NB382_391 := n10_; have NB391_382 := n11_; have NB383_391 := n12_; have NB391_383 := n13_; have NB388_391 := n14_; have NB391_388 := n15_; clear n0_ n1_ n2_ n3_ n4_ n5_ n6_ n7_ n8_ n9_ n10_ n11_ n12_ n13_ n14_ n15_; clear hb hbox hg
           refine hK.out _ _ ⟨(blk_cell BK382.out 0).trans rfl, (blk_cell BK382.out 1).trans rfl⟩ (fun hHeld => ?_)
           clear hK K
           refine norm_ (a' := ?_) ?_ ?_
           rotate_left
           ·show Act.put _ (some 9) _ = _
            simp only [Act.put, q1, q2, q3, i64_w, i32_w]; rfl
           exact norm_ (by simp only [putAll, Act.put, q1, q2, q3]) (hCont (gb391) _ ⟨hHeld, (zz BK381), (zz BK382), (zz BK383), (zz BK388), (zz BK391), GW391.out, GE391.out, NB381_391.out, NB391_381.out, NB382_391.out, NB391_382.out, NB383_391.out, NB391_383.out, NB388_391.out, NB391_388.out, (by repeat (first | (with_reducible first | exact HB.out | apply below_alloc | apply pw_below_drewN | apply below_drew1 | refine below_set ?_ GE381.out | refine below_set ?_ GE382.out | refine below_set ?_ GE383.out | refine below_set ?_ GE388.out | refine below_set ?_ GE391.out) | exact HB.out))⟩)
          ·skip
           refine box_step ?hg (N := 9) ?hd (cs := #[.int .i64 0, .int .i64 0]) (t := 25) ?hr ?_; (case hd => rfl); (case hg => rfl); (case hr => go_simp)
           intro gb391 hg w36 hbox hb; have n0_ := A0 (blk_below (zz BK381) hb); have n1_ := A0 (blk_below (zz BK382) hb); have n2_ := A0 (blk_below (zz BK383) hb); have n3_ := A0 (blk_below (zz BK388) hb); have n4_ := A0 (below_step ww hb); have n5_ := A0 (hbox); have n6_ := A0 ((by rw [hg]; exact (below_size ww) : w.heap.size ≤ gb391)); have n7_ := n6_; have n8_ := A0 ((by rw [hg]; exact Nat.ne_of_lt (blk_lt (zz BK381)) : gb381 ≠ gb391)); have n9_ := A0 n8_.out.symm; have n10_ := A0 ((by rw [hg]; exact Nat.ne_of_lt (blk_lt (zz BK382)) : gb382 ≠ gb391)); have n11_ := A0 n10_.out.symm; have n12_ := A0 ((by rw [hg]; exact Nat.ne_of_lt (blk_lt (zz BK383)) : gb383 ≠ gb391)); have n13_ := A0 n12_.out.symm; have n14_ := A0 ((by rw [hg]; exact Nat.ne_of_lt (blk_lt (zz BK388)) : gb388 ≠ gb391)); have n15_ := A0 n14_.out.symm; clear BK381; clear BK382; clear BK383; clear BK388; clear HB; have BK381 := n0_; have BK382 := n1_; have BK383 := n2_; have BK388 := n3_; have HB := n4_; have BK391 := n5_; have GW391 := n6_; have GE391 := n7_; have NB381_391 := n8_; have NB391_381 := n9_; have NB382_391 := n10_; have NB391_382 := n11_; have NB383_391 := n12_; have NB391_383 := n13_; have NB388_391 := n14_; have NB391_388 := n15_; clear n0_ n1_ n2_ n3_ n4_ n5_ n6_ n7_ n8_ n9_ n10_ n11_ n12_ n13_ n14_ n15_; clear hb hbox hg
           refine hK.out _ _ ⟨(blk_cell BK382.out 0).trans rfl, (blk_cell BK382.out 1).trans rfl⟩ (fun hHeld => ?_)
           clear hK K
           refine norm_ (a' := ?_) ?_ ?_
           rotate_left
           ·show Act.put _ (some 9) _ = _
            simp only [Act.put, q1, q2, q3, i64_w, i32_w]; rfl
           refine one_ (i := 6) (N := some 28) b13_b rfl rfl (one_of HT_.out (by kernel_rfl)) (by decide) (fun K hK => ?_)
           refine goes_ Tryd.func22 (by kernel_rfl) rfl #[.int .i64 a1_1, .int .i64 51] (by rfl) rfl rfl (by (try simp only [List.map_toArray, List.map_cons, List.map_nil]); first | done | rfl) ?_
           with_reducible refine (partitalaw02_pick.calls a1_1 51 t390 _ A7.out).mono ?_
           rintro e w' ⟨rfl, ⟨nd, rfl⟩⟩
           refine ⟨_, rfl, ?_⟩
           refine hK.out _ _ ⟨(blk_cell BK382.out 0).trans rfl, (blk_cell BK382.out 1).trans rfl⟩ (fun hHeld => ?_)
           clear hK K
           refine norm_ (a' := ?_) ?_ ?_
           rotate_left
           ·show Act.put _ (some 28) _ = _
            simp only [Act.put, q1, q2, q3, i64_w, i32_w]; rfl
           refine pure_ (i := 7) (N := some 29) (v := ?_) (a' := ?_) b14_b rfl rfl (any_of HT_.out (by kernel_rfl)) (fun _ _ _ h => h) (Or.inl ⟨by rfl, ?_⟩) ?_ ?_
           rotate_left
           ·intro w'; go_simp; with_reducible rfl
           rotate_left
           ·simp only [Act.put, q1, q2, q3, i64_w, i32_w]; rfl
           refine pure_ (i := 8) (N := some 30) (v := ?_) (a' := ?_) b5_b rfl rfl (any_of HT_.out (by kernel_rfl)) (fun _ _ _ h => h) (Or.inl ⟨by rfl, ?_⟩) ?_ ?_
           rotate_left
           ·intro w'; go_simp; with_reducible rfl
           rotate_left
           ·simp only [Act.put, q1, q2, q3, i64_w, i32_w]; rfl
           exact norm_ (by simp only [putAll, Act.put, q1, q2, q3]) (hCont (gb391) _ ⟨hHeld, (zz BK381), (zz BK382), (zz BK383), (zz BK388), (zz BK391), GW391.out, GE391.out, NB381_391.out, NB391_381.out, NB382_391.out, NB391_382.out, NB383_391.out, NB391_383.out, NB388_391.out, NB391_388.out, (by repeat (first | (with_reducible first | exact HB.out | apply below_alloc | apply pw_below_drewN | apply below_drew1 | refine below_set ?_ GE381.out | refine below_set ?_ GE382.out | refine below_set ?_ GE383.out | refine below_set ?_ GE388.out | refine below_set ?_ GE391.out) | exact HB.out))⟩)
         ·skip
          refine box_step ?hg (N := 9) ?hd (cs := #[.int .i64 0, .int .i64 0]) (t := 25) ?hr ?_; (case hd => rfl); (case hg => rfl); (case hr => go_simp)
          intro gb391 hg w36 hbox hb; have n0_ := A0 (blk_below (zz BK381) hb); have n1_ := A0 (blk_below (zz BK382) hb); have n2_ := A0 (blk_below (zz BK383) hb); have n3_ := A0 (blk_below (zz BK388) hb); have n4_ := A0 (below_step ww hb); have n5_ := A0 (hbox); have n6_ := A0 ((by rw [hg]; exact (below_size ww) : w.heap.size ≤ gb391)); have n7_ := n6_; have n8_ := A0 ((by rw [hg]; exact Nat.ne_of_lt (blk_lt (zz BK381)) : gb381 ≠ gb391)); have n9_ := A0 n8_.out.symm; have n10_ := A0 ((by rw [hg]; exact Nat.ne_of_lt (blk_lt (zz BK382)) : gb382 ≠ gb391)); have n11_ := A0 n10_.out.symm; have n12_ := A0 ((by rw [hg]; exact Nat.ne_of_lt (blk_lt (zz BK383)) : gb383 ≠ gb391)); have n13_ := A0 n12_.out.symm; have n14_ := A0 ((by rw [hg]; exact Nat.ne_of_lt (blk_lt (zz BK388)) : gb388 ≠ gb391)); have n15_ := A0 n14_.out.symm; clear BK381; clear BK382; clear BK383; clear BK388; clear HB; have BK381 := n0_; have BK382 := n1_; have BK383 := n2_; have BK388 := n3_; have HB := n4_; have BK391 := n5_; have GW391 := n6_; have GE391 := n7_; have NB381_391 := n8_; have NB391_381 := n9_; have NB382_391 := n10_; have NB391_382 := n11_; have NB383_391 := n12_; have NB391_383 := n13_; have NB388_391 := n14_; have NB391_388 := n15_; clear n0_ n1_ n2_ n3_ n4_ n5_ n6_ n7_ n8_ n9_ n10_ n11_ n12_ n13_ n14_ n15_; clear hb hbox hg
          refine hK.out _ _ ⟨(blk_cell BK382.out 0).trans rfl, (blk_cell BK382.out 1).trans rfl⟩ (fun hHeld => ?_)
          clear hK K
          refine norm_ (a' := ?_) ?_ ?_
          rotate_left
          ·show Act.put _ (some 9) _ = _
           simp only [Act.put, q1, q2, q3, i64_w, i32_w]; rfl
          refine one_ (i := 2) (N := some 24) b15_b rfl rfl (one_of HT_.out (by kernel_rfl)) (by decide) (fun K hK => ?_)
          refine goes_ Tryd.func22 (by kernel_rfl) rfl #[.int .i64 a1_0, .int .i64 31] (by rfl) rfl rfl (by (try simp only [List.map_toArray, List.map_cons, List.map_nil]); first | done | rfl) ?_
          with_reducible refine (partitalaw02_pick.calls a1_0 31 t389 _ A6.out).mono ?_
          rintro e w' ⟨rfl, ⟨nd, rfl⟩⟩
          refine ⟨_, rfl, ?_⟩
          refine hK.out _ _ ⟨(blk_cell BK382.out 0).trans rfl, (blk_cell BK382.out 1).trans rfl⟩ (fun hHeld => ?_)
          clear hK K
          refine norm_ (a' := ?_) ?_ ?_
          rotate_left
          ·show Act.put _ (some 24) _ = _
           simp only [Act.put, q1, q2, q3, i64_w, i32_w]; rfl
          refine pure_ (i := 3) (N := some 25) (v := ?_) (a' := ?_) b10_b rfl rfl (any_of HT_.out (by kernel_rfl)) (fun _ _ _ h => h) (Or.inl ⟨by rfl, ?_⟩) ?_ ?_
          rotate_left
          ·intro w'; go_simp; with_reducible rfl
          rotate_left
          ·simp only [Act.put, q1, q2, q3, i64_w, i32_w]; rfl
          refine one_ (i := 6) (N := some 28) b13_b rfl rfl (one_of HT_.out (by kernel_rfl)) (by decide) (fun K hK => ?_)
          refine goes_ Tryd.func22 (by kernel_rfl) rfl #[.int .i64 a1_1, .int .i64 51] (by rfl) rfl rfl (by (try simp only [List.map_toArray, List.map_cons, List.map_nil]); first | done | rfl) ?_
          with_reducible refine (partitalaw02_pick.calls a1_1 51 t390 _ A7.out).mono ?_
          rintro e w' ⟨rfl, ⟨nd, rfl⟩⟩
          refine ⟨_, rfl, ?_⟩
          refine hK.out _ _ ⟨(blk_cell BK382.out 0).trans rfl, (blk_cell BK382.out 1).trans rfl⟩ (fun hHeld => ?_)
          clear hK K
          refine norm_ (a' := ?_) ?_ ?_
          rotate_left
          ·show Act.put _ (some 28) _ = _
           simp only [Act.put, q1, q2, q3, i64_w, i32_w]; rfl
          refine pure_ (i := 7) (N := some 29) (v := ?_) (a' := ?_) b14_b rfl rfl (any_of HT_.out (by kernel_rfl)) (fun _ _ _ h => h) (Or.inl ⟨by rfl, ?_⟩) ?_ ?_
          rotate_left
          ·intro w'; go_simp; with_reducible rfl
          rotate_left
          ·simp only [Act.put, q1, q2, q3, i64_w, i32_w]; rfl
          refine pure_ (i := 8) (N := some 30) (v := ?_) (a' := ?_) b5_b rfl rfl (any_of HT_.out (by kernel_rfl)) (fun _ _ _ h => h) (Or.inl ⟨by rfl, ?_⟩) ?_ ?_
          rotate_left
          ·intro w'; go_simp; with_reducible rfl
          rotate_left
          ·simp only [Act.put, q1, q2, q3, i64_w, i32_w]; rfl
          exact norm_ (by simp only [putAll, Act.put, q1, q2, q3]) (hCont (gb391) _ ⟨hHeld, (zz BK381), (zz BK382), (zz BK383), (zz BK388), (zz BK391), GW391.out, GE391.out, NB381_391.out, NB391_381.out, NB382_391.out, NB391_382.out, NB383_391.out, NB391_383.out, NB388_391.out, NB391_388.out, (by repeat (first | (with_reducible first | exact HB.out | apply below_alloc | apply pw_below_drewN | apply below_drew1 | refine below_set ?_ GE381.out | refine below_set ?_ GE382.out | refine below_set ?_ GE383.out | refine below_set ?_ GE388.out | refine below_set ?_ GE391.out) | exact HB.out))⟩)
        rintro gb391 w37 ⟨hS_, h0_, h1_, h2_, h3_, h4_, h5_, h6_, h7_, h8_, h9_, h10_, h11_, h12_, h13_, h14_, h15_⟩
        have n0_ : Aside0 (w37.heap[gb381]? = some (.cells #[.int .i64 a0_0, .int .i64 a0_1, .int .i64 a0_2] 23 (0, 0))) := ⟨h0_⟩
        have n1_ : Aside0 (w37.heap[gb382]? = some (.cells #[.int .i64 a1_0, .int .i64 a1_1] 25 (0, 0))) := ⟨h1_⟩
        have n2_ : Aside0 (w37.heap[gb383]? = some (.cells #[.int .i64 a2_0, .int .i64 a2_1] 25 (0, 0))) := ⟨h2_⟩
        have n3_ : Aside0 (w37.heap[gb388]? = some (.cells #[.int .i64 t385, .int .i64 t386, .int .i64 t387] 23 (0, 0))) := ⟨h3_⟩
        have n4_ : Aside0 (w37.heap[gb391]? = some (.cells #[.int .i64 0, .int .i64 0] 25 (0, 0))) := ⟨h4_⟩
        have n5_ : Aside0 (w.heap.size ≤ gb391) := ⟨h5_⟩
        have n6_ : Aside0 (w.heap.size ≤ gb391) := ⟨h6_⟩
        have n7_ : Aside0 (gb381 ≠ gb391) := ⟨h7_⟩
        have n8_ : Aside0 (gb391 ≠ gb381) := ⟨h8_⟩
        have n9_ : Aside0 (gb382 ≠ gb391) := ⟨h9_⟩
        have n10_ : Aside0 (gb391 ≠ gb382) := ⟨h10_⟩
        have n11_ : Aside0 (gb383 ≠ gb391) := ⟨h11_⟩
        have n12_ : Aside0 (gb391 ≠ gb383) := ⟨h12_⟩
        have n13_ : Aside0 (gb388 ≠ gb391) := ⟨h13_⟩
        have n14_ : Aside0 (gb391 ≠ gb388) := ⟨h14_⟩
        have n15_ : Aside0 (Below w.heap.size w w37) := ⟨h15_⟩
        clear BK381; clear BK382; clear BK383; clear BK388; clear HB; clear h0_ h1_ h2_ h3_ h4_ h5_ h6_ h7_ h8_ h9_ h10_ h11_ h12_ h13_ h14_ h15_; have BK381 := n0_; have BK382 := n1_; have BK383 := n2_; have BK388 := n3_; have BK391 := n4_; have GW391 := n5_; have GE391 := n6_; have NB381_391 := n7_; have NB391_381 := n8_; have NB382_391 := n9_; have NB391_382 := n10_; have NB383_391 := n11_; have NB391_383 := n12_; have NB388_391 := n13_; have NB391_388 := n14_; have HB := n15_; clear n0_ n1_ n2_ n3_ n4_ n5_ n6_ n7_ n8_ n9_ n10_ n11_ n12_ n13_ n14_ n15_
        have hHeld : w37.cell? ⟨gb382, 0, none⟩ = some (.int .i64 a1_0) ∧ w37.cell? ⟨gb382, 1, none⟩ = some (.int .i64 a1_1) := hS_
        refine norm_ (a' := ?_) ?_ ?_
        rotate_left
        ·simp only [putAll, Act.put, q1, q2, q3]; rfl
        refine one_ (i := 10) (N := none) b16_b rfl rfl (one_of HT_.out (by kernel_rfl)) (by decide) (fun K hK => ?_)
        have hs38 : w37.cell? ⟨gb391, 0, none⟩ = some (.int .i64 0) := (blk_cell BK391.out 0).trans rfl
        have hfs38 := blk_frozen BK391.out 0
        have hns38_0 := NB381_391.out
        have hns38_1 := NB382_391.out
        have hns38_2 := NB383_391.out
        have hns38_3 := NB388_391.out
        have hms38_0 := NB391_381.out
        have hms38_1 := NB391_382.out
        have hms38_2 := NB391_383.out
        have hms38_3 := NB391_388.out
        have hs39 : w37.cell? ⟨gb391, 1, none⟩ = some (.int .i64 0) := (blk_cell BK391.out 1).trans rfl
        have hfs39 := blk_frozen BK391.out 1
        have hns39_0 := NB381_391.out
        have hns39_1 := NB382_391.out
        have hns39_2 := NB383_391.out
        have hns39_3 := NB388_391.out
        have hms39_0 := NB391_381.out
        have hms39_1 := NB391_382.out
        have hms39_2 := NB391_383.out
        have hms39_3 := NB391_388.out
        refine skip_ (w1 := ?_) (by rfl) rfl ?_ ?_
        rotate_left
        ·go_simp; rfl
        refine hK.out _ _ ⟨((cell_far (p := ⟨gb391, _, none⟩) NB382_391.out _).trans (((cell_far (p := ⟨gb391, _, none⟩) NB382_391.out _).trans (hHeld.1)))), ((cell_far (p := ⟨gb391, _, none⟩) NB382_391.out _).trans (((cell_far (p := ⟨gb391, _, none⟩) NB382_391.out _).trans (hHeld.2))))⟩ (fun hHeld => ?_)
        clear hK K
        refine done_ (done_of HT_.out (by kernel_rfl)) ?_
        try go_wp2
        have n0_ : Aside0 (((w37.setCell ⟨gb391, 0, none⟩ (.int .i64 (wrap64 (t389 - 15)))).setCell ⟨gb391, 1, none⟩ (.int .i64 (wrap64 (t390 - 25)))).heap[gb381]? = some (.cells #[.int .i64 a0_0, .int .i64 a0_1, .int .i64 a0_2] 23 (0, 0))) := ⟨zz BK381⟩
        have n1_ : Aside0 (((w37.setCell ⟨gb391, 0, none⟩ (.int .i64 (wrap64 (t389 - 15)))).setCell ⟨gb391, 1, none⟩ (.int .i64 (wrap64 (t390 - 25)))).heap[gb382]? = some (.cells #[.int .i64 a1_0, .int .i64 a1_1] 25 (0, 0))) := ⟨zz BK382⟩
        have n2_ : Aside0 (((w37.setCell ⟨gb391, 0, none⟩ (.int .i64 (wrap64 (t389 - 15)))).setCell ⟨gb391, 1, none⟩ (.int .i64 (wrap64 (t390 - 25)))).heap[gb383]? = some (.cells #[.int .i64 a2_0, .int .i64 a2_1] 25 (0, 0))) := ⟨zz BK383⟩
        have n3_ : Aside0 (((w37.setCell ⟨gb391, 0, none⟩ (.int .i64 (wrap64 (t389 - 15)))).setCell ⟨gb391, 1, none⟩ (.int .i64 (wrap64 (t390 - 25)))).heap[gb388]? = some (.cells #[.int .i64 t385, .int .i64 t386, .int .i64 t387] 23 (0, 0))) := ⟨zz BK388⟩
        have n4_ : Aside0 (((w37.setCell ⟨gb391, 0, none⟩ (.int .i64 (wrap64 (t389 - 15)))).setCell ⟨gb391, 1, none⟩ (.int .i64 (wrap64 (t390 - 25)))).heap[gb391]? = some (.cells #[.int .i64 (wrap64 (t389 - 15)), .int .i64 (wrap64 (t390 - 25))] 25 (0, 0))) := ⟨by (with_reducible repeat (first | refine bN ?_ _ | refine bD ?_ | refine bA ?_ _)); refine blk_put (cs := #[.int .i64 (wrap64 (t389 - 15)), .int .i64 0]) ?_ 1 _ rfl; (with_reducible repeat (first | refine bN ?_ _ | refine bD ?_ | refine bA ?_ _)); refine blk_put (cs := #[.int .i64 0, .int .i64 0]) ?_ 0 _ rfl; (with_reducible repeat (first | refine bN ?_ _ | refine bD ?_ | refine bA ?_ _)); exact BK391.out⟩
        have n5_ : Aside0 (Below w.heap.size w ((w37.setCell ⟨gb391, 0, none⟩ (.int .i64 (wrap64 (t389 - 15)))).setCell ⟨gb391, 1, none⟩ (.int .i64 (wrap64 (t390 - 25))))) := ⟨by repeat (first | (with_reducible first | exact HB.out | apply below_alloc | apply pw_below_drewN | apply below_drew1 | refine below_set ?_ GE381.out | refine below_set ?_ GE382.out | refine below_set ?_ GE383.out | refine below_set ?_ GE388.out | refine below_set ?_ GE391.out) | exact HB.out)⟩
        (try clear BK381); (try clear BK382); (try clear BK383); (try clear BK388); (try clear BK391); (try clear HB)
        generalize ((w37.setCell ⟨gb391, 0, none⟩ (.int .i64 (wrap64 (t389 - 15)))).setCell ⟨gb391, 1, none⟩ (.int .i64 (wrap64 (t390 - 25)))) = w40 at n0_ n1_ n2_ n3_ n4_ n5_ ⊢
        have BK381 := n0_; have BK382 := n1_; have BK383 := n2_; have BK388 := n3_; have BK391 := n4_; have HB := n5_; clear n0_ n1_ n2_ n3_ n4_ n5_; have n0_ := A0 (blk_drew BK381.out); have n1_ := A0 (blk_drew BK382.out); have n2_ := A0 (blk_drew BK383.out); have n3_ := A0 (blk_drew BK388.out); have n4_ := A0 (blk_drew BK391.out); have n5_ := A0 (below_drew1 HB.out); clear BK381; clear BK382; clear BK383; clear BK388; clear BK391; clear HB; have BK381 := n0_; have BK382 := n1_; have BK383 := n2_; have BK388 := n3_; have BK391 := n4_; have HB := n5_; clear n0_ n1_ n2_ n3_ n4_ n5_
        refine start_ (n := 11) (S := fun w' => w'.cell? ⟨gb383, 0, none⟩ = some (.int .i64 a2_0) ∧ w'.cell? ⟨gb383, 1, none⟩ = some (.int .i64 a2_1)) (ds := []) b0_b (by kernel_rfl) rfl rfl ⟨(blk_cell BK383.out 0).trans rfl, (blk_cell BK383.out 1).trans rfl⟩ (fun hHeld => ?_); refine with_tabW partitalaw02_PitchChain.tab4 partitalaw02_PitchChain.bits4 (fun HT_ HW_ => ?_)
        generalize w40.drew = w41 at BK381 BK382 BK383 BK388 BK391 HB hHeld ⊢
        refine pure_ (i := 0) (N := some 31) (v := ?_) (a' := ?_) b1_b rfl rfl (any_of HT_.out (by kernel_rfl)) (fun _ _ _ h => h) (Or.inl ⟨by rfl, ?_⟩) ?_ ?_
        rotate_left
        ·intro w'; go_simp; with_reducible rfl
        rotate_left
        ·simp only [Act.put, q1, q2, q3, i64_w, i32_w]; rfl
        refine pure_ (i := 4) (N := some 35) (v := ?_) (a' := ?_) b2_b rfl rfl (any_of HT_.out (by kernel_rfl)) (fun _ _ _ h => h) (Or.inl ⟨by rfl, ?_⟩) ?_ ?_
        rotate_left
        ·intro w'; go_simp; with_reducible rfl
        rotate_left
        ·simp only [Act.put, q1, q2, q3, i64_w, i32_w]; rfl
        refine take_ (i := 1) (N := some 32) (v := ?_) (a' := ?_) b3_b rfl rfl (take_ofW HT_.out HW_.out (by kernel_rfl)) (fun _ _ _ h => h) (Or.inl ⟨by rfl, ?_⟩) hHeld ?_ ?_
        rotate_left
        ·rintro w' ⟨s0, s1⟩
         go_simp; with_reducible rfl
        rotate_left
        ·simp only [Act.put, q1, q2, q3, i64_w, i32_w]; rfl
        refine take_ (i := 5) (N := some 36) (v := ?_) (a' := ?_) b4_b rfl rfl (take_ofW HT_.out HW_.out (by kernel_rfl)) (fun _ _ _ h => h) (Or.inl ⟨by rfl, ?_⟩) hHeld ?_ ?_
        rotate_left
        ·rintro w' ⟨s0, s1⟩
         go_simp; with_reducible rfl
        rotate_left
        ·simp only [Act.put, q1, q2, q3, i64_w, i32_w]; rfl
        refine join_ (σ := Nat) 1 b5_b (fun s_ => [(33, .int .i64 t392), (37, .int .i64 t393), (10, .pointer (some ⟨s_, 0, none⟩)), (34, .int .i64 (wrap64 (t392 - 15))), (38, .int .i64 (wrap64 (t393 - 25))), (39, .agg #[.int .i64 (wrap64 (t392 - 15)), .int .i64 (wrap64 (t393 - 25))])]) (fun s_ w' => (w'.cell? ⟨gb383, 0, none⟩ = some (.int .i64 a2_0) ∧ w'.cell? ⟨gb383, 1, none⟩ = some (.int .i64 a2_1)) ∧ (w'.heap[gb381]? = some (.cells #[.int .i64 a0_0, .int .i64 a0_1, .int .i64 a0_2] 23 (0, 0))) ∧ (w'.heap[gb382]? = some (.cells #[.int .i64 a1_0, .int .i64 a1_1] 25 (0, 0))) ∧ (w'.heap[gb383]? = some (.cells #[.int .i64 a2_0, .int .i64 a2_1] 25 (0, 0))) ∧ (w'.heap[gb388]? = some (.cells #[.int .i64 t385, .int .i64 t386, .int .i64 t387] 23 (0, 0))) ∧ (w'.heap[gb391]? = some (.cells #[.int .i64 (wrap64 (t389 - 15)), .int .i64 (wrap64 (t390 - 25))] 25 (0, 0))) ∧ (w'.heap[s_]? = some (.cells #[.int .i64 0, .int .i64 0] 25 (0, 0))) ∧ (w.heap.size ≤ s_) ∧ (w.heap.size ≤ s_) ∧ (gb381 ≠ s_) ∧ (s_ ≠ gb381) ∧ (gb382 ≠ s_) ∧ (s_ ≠ gb382) ∧ (gb383 ≠ s_) ∧ (s_ ≠ gb383) ∧ (gb388 ≠ s_) ∧ (s_ ≠ gb388) ∧ (gb391 ≠ s_) ∧ (s_ ≠ gb391) ∧ (Below w.heap.size w w')) ?_ ?_
        rotate_left
        ·intro hCont
         refine two_ (i := 2) (j := 9) (Ni := some 33) (Nj := some 10) b6_b b7_b rfl rfl rfl rfl (two_of HT_.out (by kernel_rfl)) (by decide) (by decide) (fun K hK => ?_) (fun K hK => ?_)
         ·skip
          refine goes_ Tryd.func22 (by kernel_rfl) rfl #[.int .i64 a2_0, .int .i64 31] (by rfl) rfl rfl (by (try simp only [List.map_toArray, List.map_cons, List.map_nil]); first | done | rfl) ?_
          with_reducible refine (partitalaw02_pick.calls a2_0 31 t392 _ A8.out).mono ?_
          rintro e w' ⟨rfl, ⟨nd, rfl⟩⟩
          refine ⟨_, rfl, ?_⟩
          refine hK.out _ _ ⟨(blk_cell BK383.out 0).trans rfl, (blk_cell BK383.out 1).trans rfl⟩ (fun hHeld => ?_)
          clear hK K
          refine norm_ (a' := ?_) ?_ ?_
          rotate_left
          ·show Act.put _ (some 33) _ = _
           simp only [Act.put, q1, q2, q3, i64_w, i32_w]; rfl
          refine pure_ (i := 3) (N := some 34) (v := ?_) (a' := ?_) b8_b rfl rfl (any_of HT_.out (by kernel_rfl)) (fun _ _ _ h => h) (Or.inl ⟨by rfl, ?_⟩) ?_ ?_
          rotate_left
          ·intro w'; go_simp; with_reducible rfl
          rotate_left
          ·simp only [Act.put, q1, q2, q3, i64_w, i32_w]; rfl
          refine two_ (i := 6) (j := 9) (Ni := some 37) (Nj := some 10) b9_b b10_b rfl rfl rfl rfl (two_of HT_.out (by kernel_rfl)) (by decide) (by decide) (fun K hK => ?_) (fun K hK => ?_)
          ·skip
           refine goes_ Tryd.func22 (by kernel_rfl) rfl #[.int .i64 a2_1, .int .i64 51] (by rfl) rfl rfl (by (try simp only [List.map_toArray, List.map_cons, List.map_nil]); first | done | rfl) ?_
           with_reducible refine (partitalaw02_pick.calls a2_1 51 t393 _ A9.out).mono ?_
           rintro e w' ⟨rfl, ⟨nd, rfl⟩⟩
           refine ⟨_, rfl, ?_⟩
           refine hK.out _ _ ⟨(blk_cell BK383.out 0).trans rfl, (blk_cell BK383.out 1).trans rfl⟩ (fun hHeld => ?_)
           clear hK K
           refine norm_ (a' := ?_) ?_ ?_
           rotate_left
           ·show Act.put _ (some 37) _ = _
            simp only [Act.put, q1, q2, q3, i64_w, i32_w]; rfl
           refine pure_ (i := 7) (N := some 38) (v := ?_) (a' := ?_) b11_b rfl rfl (any_of HT_.out (by kernel_rfl)) (fun _ _ _ h => h) (Or.inl ⟨by rfl, ?_⟩) ?_ ?_
           rotate_left
           ·intro w'; go_simp; with_reducible rfl
           rotate_left
           ·simp only [Act.put, q1, q2, q3, i64_w, i32_w]; rfl
           refine pure_ (i := 8) (N := some 39) (v := ?_) (a' := ?_) b12_b rfl rfl (any_of HT_.out (by kernel_rfl)) (fun _ _ _ h => h) (Or.inl ⟨by rfl, ?_⟩) ?_ ?_
           rotate_left
           ·intro w'; go_simp; with_reducible rfl
           rotate_left
           ·simp only [Act.put, q1, q2, q3, i64_w, i32_w]; rfl
           refine one_ (i := 9) (N := some 10) b5_b rfl rfl (one_of HT_.out (by kernel_rfl)) (by decide) (fun K hK => ?_)
           refine box_step ?hg (N := 10) ?hd (cs := #[.int .i64 0, .int .i64 0]) (t := 25) ?hr ?_; (case hd => rfl); (case hg => rfl); (case hr => go_simp)
           intro gb394 hg w42 hbox hb; have n0_ := A0 (blk_below (zz BK381) hb); have n1_ := A0 (blk_below (zz BK382) hb); have n2_ := A0 (blk_below (zz BK383) hb); have n3_ := A0 (blk_below (zz BK388) hb); have n4_ := A0 (blk_below (zz BK391) hb); have n5_ := A0 (below_step ww hb); have n6_ := A0 (hbox); have n7_ := A0 ((by rw [hg]; exact (below_size ww) : w.heap.size ≤ gb394)); have n8_ := n7_; have n9_ := A0 ((by rw [hg]; exact Nat.ne_of_lt (blk_lt (zz BK381)) : gb381 ≠ gb394)); have n10_ := A0 n9_.out.symm; have n11_ := A0 ((by rw [hg]; exact Nat.ne_of_lt (blk_lt (zz BK382)) : gb382 ≠ gb394)); have n12_ := A0 n11_.out.symm; have n13_ := A0 ((by rw [hg]; exact Nat.ne_of_lt (blk_lt (zz BK383)) : gb383 ≠ gb394)); have n14_ := A0 n13_.out.symm; have n15_ := A0 ((by rw [hg]; exact Nat.ne_of_lt (blk_lt (zz BK388)) : gb388 ≠ gb394)); have n16_ := A0 n15_.out.symm; have n17_ := A0 ((by rw [hg]; exact Nat.ne_of_lt (blk_lt (zz BK391)) : gb391 ≠ gb394)); have n18_ := A0 n17_.out.symm; clear BK381; clear BK382; clear BK383; clear BK388; clear BK391; clear HB; have BK381 := n0_; have BK382 := n1_; have BK383 := n2_; have BK388 := n3_; have BK391 := n4_; have HB := n5_; have BK394 := n6_; have GW394 := n7_; have GE394 := n8_; have NB381_394 := n9_; have NB394_381 := n10_; have NB382_394 := n11_; have NB394_382 := n12_; have NB383_394 := n13_; have NB394_383 := n14_; have NB388_394 := n15_; have NB394_388 := n16_; have NB391_394 := n17_; have NB394_391 := n18_; clear n0_ n1_ n2_ n3_ n4_ n5_ n6_ n7_ n8_ n9_ n10_ n11_ n12_ n13_ n14_ n15_ n16_ n17_ n18_; clear hb hbox hg
           refine hK.out _ _ ⟨(blk_cell BK383.out 0).trans rfl, (blk_cell BK383.out 1).trans rfl⟩ (fun hHeld => ?_)
           clear hK K
           refine norm_ (a' := ?_) ?_ ?_
           rotate_left
           ·show Act.put _ (some 10) _ = _
            simp only [Act.put, q1, q2, q3, i64_w, i32_w]; rfl
           exact norm_ (by simp only [putAll, Act.put, q1, q2, q3]) (hCont (gb394) _ ⟨hHeld, (zz BK381), (zz BK382), (zz BK383), (zz BK388), (zz BK391), (zz BK394), GW394.out, GE394.out, NB381_394.out, NB394_381.out, NB382_394.out, NB394_382.out, NB383_394.out, NB394_383.out, NB388_394.out, NB394_388.out, NB391_394.out, NB394_391.out, (by repeat (first | (with_reducible first | exact HB.out | apply below_alloc | apply pw_below_drewN | apply below_drew1 | refine below_set ?_ GE381.out | refine below_set ?_ GE382.out | refine below_set ?_ GE383.out | refine below_set ?_ GE388.out | refine below_set ?_ GE391.out | refine below_set ?_ GE394.out) | exact HB.out))⟩)
          ·skip
           refine box_step ?hg (N := 10) ?hd (cs := #[.int .i64 0, .int .i64 0]) (t := 25) ?hr ?_; (case hd => rfl); (case hg => rfl); (case hr => go_simp)
           intro gb394 hg w42 hbox hb; have n0_ := A0 (blk_below (zz BK381) hb); have n1_ := A0 (blk_below (zz BK382) hb); have n2_ := A0 (blk_below (zz BK383) hb); have n3_ := A0 (blk_below (zz BK388) hb); have n4_ := A0 (blk_below (zz BK391) hb); have n5_ := A0 (below_step ww hb); have n6_ := A0 (hbox); have n7_ := A0 ((by rw [hg]; exact (below_size ww) : w.heap.size ≤ gb394)); have n8_ := n7_; have n9_ := A0 ((by rw [hg]; exact Nat.ne_of_lt (blk_lt (zz BK381)) : gb381 ≠ gb394)); have n10_ := A0 n9_.out.symm; have n11_ := A0 ((by rw [hg]; exact Nat.ne_of_lt (blk_lt (zz BK382)) : gb382 ≠ gb394)); have n12_ := A0 n11_.out.symm; have n13_ := A0 ((by rw [hg]; exact Nat.ne_of_lt (blk_lt (zz BK383)) : gb383 ≠ gb394)); have n14_ := A0 n13_.out.symm; have n15_ := A0 ((by rw [hg]; exact Nat.ne_of_lt (blk_lt (zz BK388)) : gb388 ≠ gb394)); have n16_ := A0 n15_.out.symm; have n17_ := A0 ((by rw [hg]; exact Nat.ne_of_lt (blk_lt (zz BK391)) : gb391 ≠ gb394)); have n18_ := A0 n17_.out.symm; clear BK381; clear BK382; clear BK383; clear BK388; clear BK391; clear HB; have BK381 := n0_; have BK382 := n1_; have BK383 := n2_; have BK388 := n3_; have BK391 := n4_; have HB := n5_; have BK394 := n6_; have GW394 := n7_; have GE394 := n8_; have NB381_394 := n9_; have NB394_381 := n10_; have NB382_394 := n11_; have NB394_382 := n12_; have NB383_394 := n13_; have NB394_383 := n14_; have NB388_394 := n15_; have NB394_388 := n16_; have NB391_394 := n17_; have NB394_391 := n18_; clear n0_ n1_ n2_ n3_ n4_ n5_ n6_ n7_ n8_ n9_ n10_ n11_ n12_ n13_ n14_ n15_ n16_ n17_ n18_; clear hb hbox hg
           refine hK.out _ _ ⟨(blk_cell BK383.out 0).trans rfl, (blk_cell BK383.out 1).trans rfl⟩ (fun hHeld => ?_)
           clear hK K
           refine norm_ (a' := ?_) ?_ ?_
           rotate_left
           ·show Act.put _ (some 10) _ = _
            simp only [Act.put, q1, q2, q3, i64_w, i32_w]; rfl
           refine one_ (i := 6) (N := some 37) b13_b rfl rfl (one_of HT_.out (by kernel_rfl)) (by decide) (fun K hK => ?_)
           refine goes_ Tryd.func22 (by kernel_rfl) rfl #[.int .i64 a2_1, .int .i64 51] (by rfl) rfl rfl (by (try simp only [List.map_toArray, List.map_cons, List.map_nil]); first | done | rfl) ?_
           with_reducible refine (partitalaw02_pick.calls a2_1 51 t393 _ A9.out).mono ?_
           rintro e w' ⟨rfl, ⟨nd, rfl⟩⟩
           refine ⟨_, rfl, ?_⟩
           refine hK.out _ _ ⟨(blk_cell BK383.out 0).trans rfl, (blk_cell BK383.out 1).trans rfl⟩ (fun hHeld => ?_)
           clear hK K
           refine norm_ (a' := ?_) ?_ ?_
           rotate_left
           ·show Act.put _ (some 37) _ = _
            simp only [Act.put, q1, q2, q3, i64_w, i32_w]; rfl
           refine pure_ (i := 7) (N := some 38) (v := ?_) (a' := ?_) b14_b rfl rfl (any_of HT_.out (by kernel_rfl)) (fun _ _ _ h => h) (Or.inl ⟨by rfl, ?_⟩) ?_ ?_
           rotate_left
           ·intro w'; go_simp; with_reducible rfl
           rotate_left
           ·simp only [Act.put, q1, q2, q3, i64_w, i32_w]; rfl
           refine pure_ (i := 8) (N := some 39) (v := ?_) (a' := ?_) b5_b rfl rfl (any_of HT_.out (by kernel_rfl)) (fun _ _ _ h => h) (Or.inl ⟨by rfl, ?_⟩) ?_ ?_
           rotate_left
           ·intro w'; go_simp; with_reducible rfl
           rotate_left
           ·simp only [Act.put, q1, q2, q3, i64_w, i32_w]; rfl
           exact norm_ (by simp only [putAll, Act.put, q1, q2, q3]) (hCont (gb394) _ ⟨hHeld, (zz BK381), (zz BK382), (zz BK383), (zz BK388), (zz BK391), (zz BK394), GW394.out, GE394.out, NB381_394.out, NB394_381.out, NB382_394.out, NB394_382.out, NB383_394.out, NB394_383.out, NB388_394.out, NB394_388.out, NB391_394.out, NB394_391.out, (by repeat (first | (with_reducible first | exact HB.out | apply below_alloc | apply pw_below_drewN | apply below_drew1 | refine below_set ?_ GE381.out | refine below_set ?_ GE382.out | refine below_set ?_ GE383.out | refine below_set ?_ GE388.out | refine below_set ?_ GE391.out | refine below_set ?_ GE394.out) | exact HB.out))⟩)
         ·skip
          refine box_step ?hg (N := 10) ?hd (cs := #[.int .i64 0, .int .i64 0]) (t := 25) ?hr ?_; (case hd => rfl); (case hg => rfl); (case hr => go_simp)
          intro gb394 hg w42 hbox hb; have n0_ := A0 (blk_below (zz BK381) hb); have n1_ := A0 (blk_below (zz BK382) hb); have n2_ := A0 (blk_below (zz BK383) hb); have n3_ := A0 (blk_below (zz BK388) hb); have n4_ := A0 (blk_below (zz BK391) hb); have n5_ := A0 (below_step ww hb); have n6_ := A0 (hbox); have n7_ := A0 ((by rw [hg]; exact (below_size ww) : w.heap.size ≤ gb394)); have n8_ := n7_; have n9_ := A0 ((by rw [hg]; exact Nat.ne_of_lt (blk_lt (zz BK381)) : gb381 ≠ gb394)); have n10_ := A0 n9_.out.symm; have n11_ := A0 ((by rw [hg]; exact Nat.ne_of_lt (blk_lt (zz BK382)) : gb382 ≠ gb394)); have n12_ := A0 n11_.out.symm; have n13_ := A0 ((by rw [hg]; exact Nat.ne_of_lt (blk_lt (zz BK383)) : gb383 ≠ gb394)); have n14_ := A0 n13_.out.symm; have n15_ := A0 ((by rw [hg]; exact Nat.ne_of_lt (blk_lt (zz BK388)) : gb388 ≠ gb394)); have n16_ := A0 n15_.out.symm; have n17_ := A0 ((by rw [hg]; exact Nat.ne_of_lt (blk_lt (zz BK391)) : gb391 ≠ gb394)); have n18_ := A0 n17_.out.symm; clear BK381; clear BK382; clear BK383; clear BK388; clear BK391; clear HB; have BK381 := n0_; have BK382 := n1_; have BK383 := n2_; have BK388 := n3_; have BK391 := n4_; have HB := n5_; have BK394 := n6_; have GW394 := n7_; have GE394 := n8_; have NB381_394 := n9_; have NB394_381 := n10_; have NB382_394 := n11_; have NB394_382 := n12_; have NB383_394 := n13_; have NB394_383 := n14_; have NB388_394 := n15_; have NB394_388 := n16_; have NB391_394 := n17_; have NB394_391 := n18_; clear n0_ n1_ n2_ n3_ n4_ n5_ n6_ n7_ n8_ n9_ n10_ n11_ n12_ n13_ n14_ n15_ n16_ n17_ n18_; clear hb hbox hg
          refine hK.out _ _ ⟨(blk_cell BK383.out 0).trans rfl, (blk_cell BK383.out 1).trans rfl⟩ (fun hHeld => ?_)
          clear hK K
          refine norm_ (a' := ?_) ?_ ?_
          rotate_left
          ·show Act.put _ (some 10) _ = _
           simp only [Act.put, q1, q2, q3, i64_w, i32_w]; rfl
          refine one_ (i := 2) (N := some 33) b15_b rfl rfl (one_of HT_.out (by kernel_rfl)) (by decide) (fun K hK => ?_)
          refine goes_ Tryd.func22 (by kernel_rfl) rfl #[.int .i64 a2_0, .int .i64 31] (by rfl) rfl rfl (by (try simp only [List.map_toArray, List.map_cons, List.map_nil]); first | done | rfl) ?_
          with_reducible refine (partitalaw02_pick.calls a2_0 31 t392 _ A8.out).mono ?_
          rintro e w' ⟨rfl, ⟨nd, rfl⟩⟩
          refine ⟨_, rfl, ?_⟩
          refine hK.out _ _ ⟨(blk_cell BK383.out 0).trans rfl, (blk_cell BK383.out 1).trans rfl⟩ (fun hHeld => ?_)
          clear hK K
          refine norm_ (a' := ?_) ?_ ?_
          rotate_left
          ·show Act.put _ (some 33) _ = _
           simp only [Act.put, q1, q2, q3, i64_w, i32_w]; rfl
          refine pure_ (i := 3) (N := some 34) (v := ?_) (a' := ?_) b10_b rfl rfl (any_of HT_.out (by kernel_rfl)) (fun _ _ _ h => h) (Or.inl ⟨by rfl, ?_⟩) ?_ ?_
          rotate_left
          ·intro w'; go_simp; with_reducible rfl
          rotate_left
          ·simp only [Act.put, q1, q2, q3, i64_w, i32_w]; rfl
          refine one_ (i := 6) (N := some 37) b13_b rfl rfl (one_of HT_.out (by kernel_rfl)) (by decide) (fun K hK => ?_)
          refine goes_ Tryd.func22 (by kernel_rfl) rfl #[.int .i64 a2_1, .int .i64 51] (by rfl) rfl rfl (by (try simp only [List.map_toArray, List.map_cons, List.map_nil]); first | done | rfl) ?_
          with_reducible refine (partitalaw02_pick.calls a2_1 51 t393 _ A9.out).mono ?_
          rintro e w' ⟨rfl, ⟨nd, rfl⟩⟩
          refine ⟨_, rfl, ?_⟩
          refine hK.out _ _ ⟨(blk_cell BK383.out 0).trans rfl, (blk_cell BK383.out 1).trans rfl⟩ (fun hHeld => ?_)
          clear hK K
          refine norm_ (a' := ?_) ?_ ?_
          rotate_left
          ·show Act.put _ (some 37) _ = _
           simp only [Act.put, q1, q2, q3, i64_w, i32_w]; rfl
          refine pure_ (i := 7) (N := some 38) (v := ?_) (a' := ?_) b14_b rfl rfl (any_of HT_.out (by kernel_rfl)) (fun _ _ _ h => h) (Or.inl ⟨by rfl, ?_⟩) ?_ ?_
          rotate_left
          ·intro w'; go_simp; with_reducible rfl
          rotate_left
          ·simp only [Act.put, q1, q2, q3, i64_w, i32_w]; rfl
          refine pure_ (i := 8) (N := some 39) (v := ?_) (a' := ?_) b5_b rfl rfl (any_of HT_.out (by kernel_rfl)) (fun _ _ _ h => h) (Or.inl ⟨by rfl, ?_⟩) ?_ ?_
          rotate_left
          ·intro w'; go_simp; with_reducible rfl
          rotate_left
          ·simp only [Act.put, q1, q2, q3, i64_w, i32_w]; rfl
          exact norm_ (by simp only [putAll, Act.put, q1, q2, q3]) (hCont (gb394) _ ⟨hHeld, (zz BK381), (zz BK382), (zz BK383), (zz BK388), (zz BK391), (zz BK394), GW394.out, GE394.out, NB381_394.out, NB394_381.out, NB382_394.out, NB394_382.out, NB383_394.out, NB394_383.out, NB388_394.out, NB394_388.out, NB391_394.out, NB394_391.out, (by repeat (first | (with_reducible first | exact HB.out | apply below_alloc | apply pw_below_drewN | apply below_drew1 | refine below_set ?_ GE381.out | refine below_set ?_ GE382.out | refine below_set ?_ GE383.out | refine below_set ?_ GE388.out | refine below_set ?_ GE391.out | refine below_set ?_ GE394.out) | exact HB.out))⟩)
        rintro gb394 w43 ⟨hS_, h0_, h1_, h2_, h3_, h4_, h5_, h6_, h7_, h8_, h9_, h10_, h11_, h12_, h13_, h14_, h15_, h16_, h17_, h18_⟩
        have n0_ : Aside0 (w43.heap[gb381]? = some (.cells #[.int .i64 a0_0, .int .i64 a0_1, .int .i64 a0_2] 23 (0, 0))) := ⟨h0_⟩
        have n1_ : Aside0 (w43.heap[gb382]? = some (.cells #[.int .i64 a1_0, .int .i64 a1_1] 25 (0, 0))) := ⟨h1_⟩
        have n2_ : Aside0 (w43.heap[gb383]? = some (.cells #[.int .i64 a2_0, .int .i64 a2_1] 25 (0, 0))) := ⟨h2_⟩
        have n3_ : Aside0 (w43.heap[gb388]? = some (.cells #[.int .i64 t385, .int .i64 t386, .int .i64 t387] 23 (0, 0))) := ⟨h3_⟩
        have n4_ : Aside0 (w43.heap[gb391]? = some (.cells #[.int .i64 (wrap64 (t389 - 15)), .int .i64 (wrap64 (t390 - 25))] 25 (0, 0))) := ⟨h4_⟩
        have n5_ : Aside0 (w43.heap[gb394]? = some (.cells #[.int .i64 0, .int .i64 0] 25 (0, 0))) := ⟨h5_⟩
        have n6_ : Aside0 (w.heap.size ≤ gb394) := ⟨h6_⟩
        have n7_ : Aside0 (w.heap.size ≤ gb394) := ⟨h7_⟩
        have n8_ : Aside0 (gb381 ≠ gb394) := ⟨h8_⟩
        have n9_ : Aside0 (gb394 ≠ gb381) := ⟨h9_⟩
        have n10_ : Aside0 (gb382 ≠ gb394) := ⟨h10_⟩
        have n11_ : Aside0 (gb394 ≠ gb382) := ⟨h11_⟩
        have n12_ : Aside0 (gb383 ≠ gb394) := ⟨h12_⟩
        have n13_ : Aside0 (gb394 ≠ gb383) := ⟨h13_⟩
        have n14_ : Aside0 (gb388 ≠ gb394) := ⟨h14_⟩
        have n15_ : Aside0 (gb394 ≠ gb388) := ⟨h15_⟩
        have n16_ : Aside0 (gb391 ≠ gb394) := ⟨h16_⟩
        have n17_ : Aside0 (gb394 ≠ gb391) := ⟨h17_⟩
        have n18_ : Aside0 (Below w.heap.size w w43) := ⟨h18_⟩
        clear BK381; clear BK382; clear BK383; clear BK388; clear BK391; clear HB; clear h0_ h1_ h2_ h3_ h4_ h5_ h6_ h7_ h8_ h9_ h10_ h11_ h12_ h13_ h14_ h15_ h16_ h17_ h18_; have BK381 := n0_; have BK382 := n1_; have BK383 := n2_; have BK388 := n3_; have BK391 := n4_; have BK394 := n5_; have GW394 := n6_; have GE394 := n7_; have NB381_394 := n8_; have NB394_381 := n9_; have NB382_394 := n10_; have NB394_382 := n11_; have NB383_394 := n12_; have NB394_383 := n13_; have NB388_394 := n14_; have NB394_388 := n15_; have NB391_394 := n16_; have NB394_391 := n17_; have HB := n18_; clear n0_ n1_ n2_ n3_ n4_ n5_ n6_ n7_ n8_ n9_ n10_ n11_ n12_ n13_ n14_ n15_ n16_ n17_ n18_
        have hHeld : w43.cell? ⟨gb383, 0, none⟩ = some (.int .i64 a2_0) ∧ w43.cell? ⟨gb383, 1, none⟩ = some (.int .i64 a2_1) := hS_
        refine norm_ (a' := ?_) ?_ ?_
        rotate_left
        ·simp only [putAll, Act.put, q1, q2, q3]; rfl
        refine one_ (i := 10) (N := none) b16_b rfl rfl (one_of HT_.out (by kernel_rfl)) (by decide) (fun K hK => ?_)
        have hs44 : w43.cell? ⟨gb394, 0, none⟩ = some (.int .i64 0) := (blk_cell BK394.out 0).trans rfl
        have hfs44 := blk_frozen BK394.out 0
        have hns44_0 := NB381_394.out
        have hns44_1 := NB382_394.out
        have hns44_2 := NB383_394.out
        have hns44_3 := NB388_394.out
        have hns44_4 := NB391_394.out
        have hms44_0 := NB394_381.out
        have hms44_1 := NB394_382.out
        have hms44_2 := NB394_383.out
        have hms44_3 := NB394_388.out
        have hms44_4 := NB394_391.out
        have hs45 : w43.cell? ⟨gb394, 1, none⟩ = some (.int .i64 0) := (blk_cell BK394.out 1).trans rfl
        have hfs45 := blk_frozen BK394.out 1
        have hns45_0 := NB381_394.out
        have hns45_1 := NB382_394.out
        have hns45_2 := NB383_394.out
        have hns45_3 := NB388_394.out
        have hns45_4 := NB391_394.out
        have hms45_0 := NB394_381.out
        have hms45_1 := NB394_382.out
        have hms45_2 := NB394_383.out
        have hms45_3 := NB394_388.out
        have hms45_4 := NB394_391.out
        refine skip_ (w1 := ?_) (by rfl) rfl ?_ ?_
        rotate_left
        ·go_simp; rfl
        refine hK.out _ _ ⟨((cell_far (p := ⟨gb394, _, none⟩) NB383_394.out _).trans (((cell_far (p := ⟨gb394, _, none⟩) NB383_394.out _).trans (hHeld.1)))), ((cell_far (p := ⟨gb394, _, none⟩) NB383_394.out _).trans (((cell_far (p := ⟨gb394, _, none⟩) NB383_394.out _).trans (hHeld.2))))⟩ (fun hHeld => ?_)
        clear hK K
        refine done_ (done_of HT_.out (by kernel_rfl)) ?_
        have hnb46 := NB388_391.out
        have hnc46 := NB391_388.out
        have hnb47 := NB388_394.out
        have hnc47 := NB394_388.out
        have hcz48_0 : w43.cell? ⟨gb388, 0, none⟩ = some (.int .i64 t385) := (blk_cell BK388.out 0).trans rfl
        have hcz48_1 : w43.cell? ⟨gb388, 1, none⟩ = some (.int .i64 t386) := (blk_cell BK388.out 1).trans rfl
        have hcz48_2 : w43.cell? ⟨gb388, 2, none⟩ = some (.int .i64 t387) := (blk_cell BK388.out 2).trans rfl
        have hfz48_0 := blk_frozen BK388.out 0
        have hfz48_1 := blk_frozen BK388.out 1
        have hfz48_2 := blk_frozen BK388.out 2
        have hnb49 := NB391_381.out
        have hnc49 := NB381_391.out
        have hnb50 := NB391_382.out
        have hnc50 := NB382_391.out
        have hnb51 := NB391_383.out
        have hnc51 := NB383_391.out
        have hnb52 := NB391_394.out
        have hnc52 := NB394_391.out
        have hcz53_0 : w43.cell? ⟨gb391, 0, none⟩ = some (.int .i64 (wrap64 (t389 - 15))) := (blk_cell BK391.out 0).trans rfl
        have hcz53_1 : w43.cell? ⟨gb391, 1, none⟩ = some (.int .i64 (wrap64 (t390 - 25))) := (blk_cell BK391.out 1).trans rfl
        have hfz53_0 := blk_frozen BK391.out 0
        have hfz53_1 := blk_frozen BK391.out 1
        try go_wp2_with (first | ((with_reducible refine gate_callee (f := 23) rfl ?_); refine goesL_ (some 43) rfl rfl Tryd.func23 (by kernel_rfl) rfl #[.agg #[.int .i64 t385, .int .i64 t386, .int .i64 t387], .agg #[.int .i64 (wrap64 (t389 - 15)), .int .i64 (wrap64 (t390 - 25))]] rfl (by (try simp only [List.map_toArray, List.map_cons, List.map_nil]); first | done | rfl) ?_; (with_reducible refine (pitch_Up.calls k t385 t386 t387 (wrap64 (t389 - 15)) (wrap64 (t390 - 25)) t395 t396 t397 t398 _ ?side1 A10.out).mono ?_); (case side1 => exact GW.step HG_.out (by repeat (first | (with_reducible first | exact HB.out | apply below_alloc | apply pw_below_drewN | apply below_drew1 | refine below_set ?_ GE381.out | refine below_set ?_ GE382.out | refine below_set ?_ GE383.out | refine below_set ?_ GE388.out | refine below_set ?_ GE391.out | refine below_set ?_ GE394.out) | exact HB.out))); rintro e w54 ⟨rfl, hb⟩; refine ⟨_, rfl, ?_⟩; have n0_ := A0 (blk_below (zz BK381) hb); have n1_ := A0 (blk_below (zz BK382) hb); have n2_ := A0 (blk_below (zz BK383) hb); have n3_ := A0 (blk_below (zz BK388) hb); have n4_ := A0 (blk_below (zz BK391) hb); have n5_ := A0 (blk_below (g := gb394) (o := .cells #[.int .i64 (wrap64 (t392 - 15)), .int .i64 (wrap64 (t393 - 25))] 25 (0, 0)) (by (with_reducible repeat (first | refine bN ?_ _ | refine bD ?_ | refine bA ?_ _)); refine blk_put (cs := #[.int .i64 (wrap64 (t392 - 15)), .int .i64 0]) ?_ 1 _ rfl; (with_reducible repeat (first | refine bN ?_ _ | refine bD ?_ | refine bA ?_ _)); refine blk_put (cs := #[.int .i64 0, .int .i64 0]) ?_ 0 _ rfl; (with_reducible repeat (first | refine bN ?_ _ | refine bD ?_ | refine bA ?_ _)); exact BK394.out) hb); have n6_ := A0 (below_step ww hb); clear BK381; clear BK382; clear BK383; clear BK388; clear BK391; clear BK394; clear HB; have BK381 := n0_; have BK382 := n1_; have BK383 := n2_; have BK388 := n3_; have BK391 := n4_; have BK394 := n5_; have HB := n6_; clear n0_ n1_ n2_ n3_ n4_ n5_ n6_; (try clear hb)) | ((with_reducible refine gate_dst (N := 11) rfl ?_); refine box_event ?hg (N := 11) ?hd (cs := #[.int .i64 0, .int .i64 0, .int .i64 0]) (t := 23) ?hr ?_; (case hd => rfl); (case hg => rfl); (case hr => go_simp); intro gb399 hg w55 hbox hb; have n0_ := A0 (blk_below (zz BK381) hb); have n1_ := A0 (blk_below (zz BK382) hb); have n2_ := A0 (blk_below (zz BK383) hb); have n3_ := A0 (blk_below (zz BK388) hb); have n4_ := A0 (blk_below (zz BK391) hb); have n5_ := A0 (blk_below (zz BK394) hb); have n6_ := A0 (below_step ww hb); have n7_ := A0 (hbox); have n8_ := A0 ((by rw [hg]; exact (below_size ww) : w.heap.size ≤ gb399)); have n9_ := n8_; have n10_ := A0 ((by rw [hg]; exact Nat.ne_of_lt (blk_lt (zz BK381)) : gb381 ≠ gb399)); have n11_ := A0 n10_.out.symm; have n12_ := A0 ((by rw [hg]; exact Nat.ne_of_lt (blk_lt (zz BK382)) : gb382 ≠ gb399)); have n13_ := A0 n12_.out.symm; have n14_ := A0 ((by rw [hg]; exact Nat.ne_of_lt (blk_lt (zz BK383)) : gb383 ≠ gb399)); have n15_ := A0 n14_.out.symm; have n16_ := A0 ((by rw [hg]; exact Nat.ne_of_lt (blk_lt (zz BK388)) : gb388 ≠ gb399)); have n17_ := A0 n16_.out.symm; have n18_ := A0 ((by rw [hg]; exact Nat.ne_of_lt (blk_lt (zz BK391)) : gb391 ≠ gb399)); have n19_ := A0 n18_.out.symm; have n20_ := A0 ((by rw [hg]; exact Nat.ne_of_lt (blk_lt (zz BK394)) : gb394 ≠ gb399)); have n21_ := A0 n20_.out.symm; clear BK381; clear BK382; clear BK383; clear BK388; clear BK391; clear BK394; clear HB; have BK381 := n0_; have BK382 := n1_; have BK383 := n2_; have BK388 := n3_; have BK391 := n4_; have BK394 := n5_; have HB := n6_; have BK399 := n7_; have GW399 := n8_; have GE399 := n9_; have NB381_399 := n10_; have NB399_381 := n11_; have NB382_399 := n12_; have NB399_382 := n13_; have NB383_399 := n14_; have NB399_383 := n15_; have NB388_399 := n16_; have NB399_388 := n17_; have NB391_399 := n18_; have NB399_391 := n19_; have NB394_399 := n20_; have NB399_394 := n21_; clear n0_ n1_ n2_ n3_ n4_ n5_ n6_ n7_ n8_ n9_ n10_ n11_ n12_ n13_ n14_ n15_ n16_ n17_ n18_ n19_ n20_ n21_; clear hb hbox hg; have hnb56 := NB399_381.out; have hnc56 := NB381_399.out; have hnb57 := NB399_382.out; have hnc57 := NB382_399.out; have hnb58 := NB399_383.out; have hnc58 := NB383_399.out; have hnb59 := NB399_388.out; have hnc59 := NB388_399.out; have hnb60 := NB399_391.out; have hnc60 := NB391_399.out; have hnb61 := NB399_394.out; have hnc61 := NB394_399.out; have hcz62_0 : w55.cell? ⟨gb399, 0, none⟩ = some (.int .i64 0) := (blk_cell BK399.out 0).trans rfl; have hcz62_1 : w55.cell? ⟨gb399, 1, none⟩ = some (.int .i64 0) := (blk_cell BK399.out 1).trans rfl; have hcz62_2 : w55.cell? ⟨gb399, 2, none⟩ = some (.int .i64 0) := (blk_cell BK399.out 2).trans rfl; have hfz62_0 := blk_frozen BK399.out 0; have hfz62_1 := blk_frozen BK399.out 1; have hfz62_2 := blk_frozen BK399.out 2; have hcz63_0 : w55.cell? ⟨gb388, 0, none⟩ = some (.int .i64 t385) := (blk_cell BK388.out 0).trans rfl; have hcz63_1 : w55.cell? ⟨gb388, 1, none⟩ = some (.int .i64 t386) := (blk_cell BK388.out 1).trans rfl; have hcz63_2 : w55.cell? ⟨gb388, 2, none⟩ = some (.int .i64 t387) := (blk_cell BK388.out 2).trans rfl; have hfz63_0 := blk_frozen BK388.out 0; have hfz63_1 := blk_frozen BK388.out 1; have hfz63_2 := blk_frozen BK388.out 2) | ((with_reducible refine gate_callee (f := 25) rfl ?_); refine goesL_ (some 61) rfl rfl Tryd.func25 (by kernel_rfl) rfl #[.agg #[.int .i64 t385, .int .i64 t386, .int .i64 t387], .agg #[.int .i64 t395, .int .i64 t396, .int .i64 t397]] rfl (by (try simp only [List.map_toArray, List.map_cons, List.map_nil]); first | done | rfl) ?_; (with_reducible refine (pitch_Between.calls k t385 t386 t387 t395 t396 t397 t400 t401 t402 _ ?side1 A12.out).mono ?_); (case side1 => exact GW.step HG_.out (by repeat (first | (with_reducible first | exact HB.out | apply below_alloc | apply pw_below_drewN | apply below_drew1 | refine below_set ?_ GE381.out | refine below_set ?_ GE382.out | refine below_set ?_ GE383.out | refine below_set ?_ GE388.out | refine below_set ?_ GE391.out | refine below_set ?_ GE394.out | refine below_set ?_ GE399.out) | exact HB.out))); rintro e w64 ⟨rfl, hb⟩; refine ⟨_, rfl, ?_⟩; have n0_ := A0 (blk_below (zz BK381) hb); have n1_ := A0 (blk_below (zz BK382) hb); have n2_ := A0 (blk_below (zz BK383) hb); have n3_ := A0 (blk_below (zz BK388) hb); have n4_ := A0 (blk_below (zz BK391) hb); have n5_ := A0 (blk_below (zz BK394) hb); have n6_ := A0 (blk_below (g := gb399) (o := .cells #[.int .i64 t395, .int .i64 t396, .int .i64 t397] 23 (0, 0)) (by (with_reducible repeat (first | refine bN ?_ _ | refine bD ?_ | refine bA ?_ _)); refine blk_put (cs := #[.int .i64 t395, .int .i64 t396, .int .i64 0]) ?_ 2 _ rfl; (with_reducible repeat (first | refine bN ?_ _ | refine bD ?_ | refine bA ?_ _)); refine blk_put (cs := #[.int .i64 t395, .int .i64 0, .int .i64 0]) ?_ 1 _ rfl; (with_reducible repeat (first | refine bN ?_ _ | refine bD ?_ | refine bA ?_ _)); refine blk_put (cs := #[.int .i64 0, .int .i64 0, .int .i64 0]) ?_ 0 _ rfl; (with_reducible repeat (first | refine bN ?_ _ | refine bD ?_ | refine bA ?_ _)); exact BK399.out) hb); have n7_ := A0 (below_step ww hb); clear BK381; clear BK382; clear BK383; clear BK388; clear BK391; clear BK394; clear BK399; clear HB; have BK381 := n0_; have BK382 := n1_; have BK383 := n2_; have BK388 := n3_; have BK391 := n4_; have BK394 := n5_; have BK399 := n6_; have HB := n7_; clear n0_ n1_ n2_ n3_ n4_ n5_ n6_ n7_; (try clear hb)) | ((with_reducible refine gate_dst (N := 13) rfl ?_); refine box_event ?hg (N := 13) ?hd (cs := #[.int .i64 0, .int .i64 0]) (t := 25) ?hr ?_; (case hd => rfl); (case hg => rfl); (case hr => go_simp); intro gb403 hg w65 hbox hb; have n0_ := A0 (blk_below (zz BK381) hb); have n1_ := A0 (blk_below (zz BK382) hb); have n2_ := A0 (blk_below (zz BK383) hb); have n3_ := A0 (blk_below (zz BK388) hb); have n4_ := A0 (blk_below (zz BK391) hb); have n5_ := A0 (blk_below (zz BK394) hb); have n6_ := A0 (blk_below (zz BK399) hb); have n7_ := A0 (below_step ww hb); have n8_ := A0 (hbox); have n9_ := A0 ((by rw [hg]; exact (below_size ww) : w.heap.size ≤ gb403)); have n10_ := n9_; have n11_ := A0 ((by rw [hg]; exact Nat.ne_of_lt (blk_lt (zz BK381)) : gb381 ≠ gb403)); have n12_ := A0 n11_.out.symm; have n13_ := A0 ((by rw [hg]; exact Nat.ne_of_lt (blk_lt (zz BK382)) : gb382 ≠ gb403)); have n14_ := A0 n13_.out.symm; have n15_ := A0 ((by rw [hg]; exact Nat.ne_of_lt (blk_lt (zz BK383)) : gb383 ≠ gb403)); have n16_ := A0 n15_.out.symm; have n17_ := A0 ((by rw [hg]; exact Nat.ne_of_lt (blk_lt (zz BK388)) : gb388 ≠ gb403)); have n18_ := A0 n17_.out.symm; have n19_ := A0 ((by rw [hg]; exact Nat.ne_of_lt (blk_lt (zz BK391)) : gb391 ≠ gb403)); have n20_ := A0 n19_.out.symm; have n21_ := A0 ((by rw [hg]; exact Nat.ne_of_lt (blk_lt (zz BK394)) : gb394 ≠ gb403)); have n22_ := A0 n21_.out.symm; have n23_ := A0 ((by rw [hg]; exact Nat.ne_of_lt (blk_lt (zz BK399)) : gb399 ≠ gb403)); have n24_ := A0 n23_.out.symm; clear BK381; clear BK382; clear BK383; clear BK388; clear BK391; clear BK394; clear BK399; clear HB; have BK381 := n0_; have BK382 := n1_; have BK383 := n2_; have BK388 := n3_; have BK391 := n4_; have BK394 := n5_; have BK399 := n6_; have HB := n7_; have BK403 := n8_; have GW403 := n9_; have GE403 := n10_; have NB381_403 := n11_; have NB403_381 := n12_; have NB382_403 := n13_; have NB403_382 := n14_; have NB383_403 := n15_; have NB403_383 := n16_; have NB388_403 := n17_; have NB403_388 := n18_; have NB391_403 := n19_; have NB403_391 := n20_; have NB394_403 := n21_; have NB403_394 := n22_; have NB399_403 := n23_; have NB403_399 := n24_; clear n0_ n1_ n2_ n3_ n4_ n5_ n6_ n7_ n8_ n9_ n10_ n11_ n12_ n13_ n14_ n15_ n16_ n17_ n18_ n19_ n20_ n21_ n22_ n23_ n24_; clear hb hbox hg; have hnb66 := NB403_381.out; have hnc66 := NB381_403.out; have hnb67 := NB403_382.out; have hnc67 := NB382_403.out; have hnb68 := NB403_383.out; have hnc68 := NB383_403.out; have hnb69 := NB403_388.out; have hnc69 := NB388_403.out; have hnb70 := NB403_391.out; have hnc70 := NB391_403.out; have hnb71 := NB403_394.out; have hnc71 := NB394_403.out; have hnb72 := NB403_399.out; have hnc72 := NB399_403.out; have hcz73_0 : w65.cell? ⟨gb403, 0, none⟩ = some (.int .i64 0) := (blk_cell BK403.out 0).trans rfl; have hcz73_1 : w65.cell? ⟨gb403, 1, none⟩ = some (.int .i64 0) := (blk_cell BK403.out 1).trans rfl; have hfz73_0 := blk_frozen BK403.out 0; have hfz73_1 := blk_frozen BK403.out 1; have hcz74_0 : w65.cell? ⟨gb399, 0, none⟩ = some (.int .i64 t395) := (blk_cell BK399.out 0).trans rfl; have hcz74_1 : w65.cell? ⟨gb399, 1, none⟩ = some (.int .i64 t396) := (blk_cell BK399.out 1).trans rfl; have hcz74_2 : w65.cell? ⟨gb399, 2, none⟩ = some (.int .i64 t397) := (blk_cell BK399.out 2).trans rfl; have hfz74_0 := blk_frozen BK399.out 0; have hfz74_1 := blk_frozen BK399.out 1; have hfz74_2 := blk_frozen BK399.out 2; have hnb75 := NB394_381.out; have hnc75 := NB381_394.out; have hnb76 := NB394_382.out; have hnc76 := NB382_394.out; have hnb77 := NB394_383.out; have hnc77 := NB383_394.out; have hcz78_0 : w65.cell? ⟨gb394, 0, none⟩ = some (.int .i64 (wrap64 (t392 - 15))) := (blk_cell BK394.out 0).trans rfl; have hcz78_1 : w65.cell? ⟨gb394, 1, none⟩ = some (.int .i64 (wrap64 (t393 - 25))) := (blk_cell BK394.out 1).trans rfl; have hfz78_0 := blk_frozen BK394.out 0; have hfz78_1 := blk_frozen BK394.out 1) | ((with_reducible refine gate_callee (f := 23) rfl ?_); refine goesL_ (some 67) rfl rfl Tryd.func23 (by kernel_rfl) rfl #[.agg #[.int .i64 t395, .int .i64 t396, .int .i64 t397], .agg #[.int .i64 (wrap64 (t392 - 15)), .int .i64 (wrap64 (t393 - 25))]] rfl (by (try simp only [List.map_toArray, List.map_cons, List.map_nil]); first | done | rfl) ?_; (with_reducible refine (pitch_Up.calls k t395 t396 t397 (wrap64 (t392 - 15)) (wrap64 (t393 - 25)) t404 t405 t406 t407 _ ?side1 A13.out).mono ?_); (case side1 => exact GW.step HG_.out (by repeat (first | (with_reducible first | exact HB.out | apply below_alloc | apply pw_below_drewN | apply below_drew1 | refine below_set ?_ GE381.out | refine below_set ?_ GE382.out | refine below_set ?_ GE383.out | refine below_set ?_ GE388.out | refine below_set ?_ GE391.out | refine below_set ?_ GE394.out | refine below_set ?_ GE399.out | refine below_set ?_ GE403.out) | exact HB.out))); rintro e w79 ⟨rfl, hb⟩; refine ⟨_, rfl, ?_⟩; have n0_ := A0 (blk_below (zz BK381) hb); have n1_ := A0 (blk_below (zz BK382) hb); have n2_ := A0 (blk_below (zz BK383) hb); have n3_ := A0 (blk_below (zz BK388) hb); have n4_ := A0 (blk_below (zz BK391) hb); have n5_ := A0 (blk_below (zz BK394) hb); have n6_ := A0 (blk_below (zz BK399) hb); have n7_ := A0 (blk_below (g := gb403) (o := .cells #[.int .i64 t400, .int .i64 t401] 25 (0, 0)) (by (with_reducible repeat (first | refine bN ?_ _ | refine bD ?_ | refine bA ?_ _)); refine blk_put (cs := #[.int .i64 t400, .int .i64 0]) ?_ 1 _ rfl; (with_reducible repeat (first | refine bN ?_ _ | refine bD ?_ | refine bA ?_ _)); refine blk_put (cs := #[.int .i64 0, .int .i64 0]) ?_ 0 _ rfl; (with_reducible repeat (first | refine bN ?_ _ | refine bD ?_ | refine bA ?_ _)); exact BK403.out) hb); have n8_ := A0 (below_step ww hb); clear BK381; clear BK382; clear BK383; clear BK388; clear BK391; clear BK394; clear BK399; clear BK403; clear HB; have BK381 := n0_; have BK382 := n1_; have BK383 := n2_; have BK388 := n3_; have BK391 := n4_; have BK394 := n5_; have BK399 := n6_; have BK403 := n7_; have HB := n8_; clear n0_ n1_ n2_ n3_ n4_ n5_ n6_ n7_ n8_; (try clear hb)) | ((with_reducible refine gate_dst (N := 15) rfl ?_); refine box_event ?hg (N := 15) ?hd (cs := #[.int .i64 0, .int .i64 0, .int .i64 0]) (t := 23) ?hr ?_; (case hd => rfl); (case hg => rfl); (case hr => go_simp); intro gb408 hg w80 hbox hb; have n0_ := A0 (blk_below (zz BK381) hb); have n1_ := A0 (blk_below (zz BK382) hb); have n2_ := A0 (blk_below (zz BK383) hb); have n3_ := A0 (blk_below (zz BK388) hb); have n4_ := A0 (blk_below (zz BK391) hb); have n5_ := A0 (blk_below (zz BK394) hb); have n6_ := A0 (blk_below (zz BK399) hb); have n7_ := A0 (blk_below (zz BK403) hb); have n8_ := A0 (below_step ww hb); have n9_ := A0 (hbox); have n10_ := A0 ((by rw [hg]; exact (below_size ww) : w.heap.size ≤ gb408)); have n11_ := n10_; have n12_ := A0 ((by rw [hg]; exact Nat.ne_of_lt (blk_lt (zz BK381)) : gb381 ≠ gb408)); have n13_ := A0 n12_.out.symm; have n14_ := A0 ((by rw [hg]; exact Nat.ne_of_lt (blk_lt (zz BK382)) : gb382 ≠ gb408)); have n15_ := A0 n14_.out.symm; have n16_ := A0 ((by rw [hg]; exact Nat.ne_of_lt (blk_lt (zz BK383)) : gb383 ≠ gb408)); have n17_ := A0 n16_.out.symm; have n18_ := A0 ((by rw [hg]; exact Nat.ne_of_lt (blk_lt (zz BK388)) : gb388 ≠ gb408)); have n19_ := A0 n18_.out.symm; have n20_ := A0 ((by rw [hg]; exact Nat.ne_of_lt (blk_lt (zz BK391)) : gb391 ≠ gb408)); have n21_ := A0 n20_.out.symm; have n22_ := A0 ((by rw [hg]; exact Nat.ne_of_lt (blk_lt (zz BK394)) : gb394 ≠ gb408)); have n23_ := A0 n22_.out.symm; have n24_ := A0 ((by rw [hg]; exact Nat.ne_of_lt (blk_lt (zz BK399)) : gb399 ≠ gb408)); have n25_ := A0 n24_.out.symm; have n26_ := A0 ((by rw [hg]; exact Nat.ne_of_lt (blk_lt (zz BK403)) : gb403 ≠ gb408)); have n27_ := A0 n26_.out.symm; clear BK381; clear BK382; clear BK383; clear BK388; clear BK391; clear BK394; clear BK399; clear BK403; clear HB; have BK381 := n0_; have BK382 := n1_; have BK383 := n2_; have BK388 := n3_; have BK391 := n4_; have BK394 := n5_; have BK399 := n6_; have BK403 := n7_; have HB := n8_; have BK408 := n9_; have GW408 := n10_; have GE408 := n11_; have NB381_408 := n12_; have NB408_381 := n13_; have NB382_408 := n14_; have NB408_382 := n15_; have NB383_408 := n16_; have NB408_383 := n17_; have NB388_408 := n18_; have NB408_388 := n19_; have NB391_408 := n20_; have NB408_391 := n21_; have NB394_408 := n22_; have NB408_394 := n23_; have NB399_408 := n24_; have NB408_399 := n25_; have NB403_408 := n26_; have NB408_403 := n27_; clear n0_ n1_ n2_ n3_ n4_ n5_ n6_ n7_ n8_ n9_ n10_ n11_ n12_ n13_ n14_ n15_ n16_ n17_ n18_ n19_ n20_ n21_ n22_ n23_ n24_ n25_ n26_ n27_; clear hb hbox hg; have hnb81 := NB408_381.out; have hnc81 := NB381_408.out; have hnb82 := NB408_382.out; have hnc82 := NB382_408.out; have hnb83 := NB408_383.out; have hnc83 := NB383_408.out; have hnb84 := NB408_388.out; have hnc84 := NB388_408.out; have hnb85 := NB408_391.out; have hnc85 := NB391_408.out; have hnb86 := NB408_394.out; have hnc86 := NB394_408.out; have hnb87 := NB408_399.out; have hnc87 := NB399_408.out; have hnb88 := NB408_403.out; have hnc88 := NB403_408.out; have hcz89_0 : w80.cell? ⟨gb408, 0, none⟩ = some (.int .i64 0) := (blk_cell BK408.out 0).trans rfl; have hcz89_1 : w80.cell? ⟨gb408, 1, none⟩ = some (.int .i64 0) := (blk_cell BK408.out 1).trans rfl; have hcz89_2 : w80.cell? ⟨gb408, 2, none⟩ = some (.int .i64 0) := (blk_cell BK408.out 2).trans rfl; have hfz89_0 := blk_frozen BK408.out 0; have hfz89_1 := blk_frozen BK408.out 1; have hfz89_2 := blk_frozen BK408.out 2; have hcz90_0 : w80.cell? ⟨gb388, 0, none⟩ = some (.int .i64 t385) := (blk_cell BK388.out 0).trans rfl; have hcz90_1 : w80.cell? ⟨gb388, 1, none⟩ = some (.int .i64 t386) := (blk_cell BK388.out 1).trans rfl; have hcz90_2 : w80.cell? ⟨gb388, 2, none⟩ = some (.int .i64 t387) := (blk_cell BK388.out 2).trans rfl; have hfz90_0 := blk_frozen BK388.out 0; have hfz90_1 := blk_frozen BK388.out 1; have hfz90_2 := blk_frozen BK388.out 2; have hcz91_0 : w80.cell? ⟨gb391, 0, none⟩ = some (.int .i64 (wrap64 (t389 - 15))) := (blk_cell BK391.out 0).trans rfl; have hcz91_1 : w80.cell? ⟨gb391, 1, none⟩ = some (.int .i64 (wrap64 (t390 - 25))) := (blk_cell BK391.out 1).trans rfl; have hfz91_0 := blk_frozen BK391.out 0; have hfz91_1 := blk_frozen BK391.out 1; have hcz92_0 : w80.cell? ⟨gb394, 0, none⟩ = some (.int .i64 (wrap64 (t392 - 15))) := (blk_cell BK394.out 0).trans rfl; have hcz92_1 : w80.cell? ⟨gb394, 1, none⟩ = some (.int .i64 (wrap64 (t393 - 25))) := (blk_cell BK394.out 1).trans rfl; have hfz92_0 := blk_frozen BK394.out 0; have hfz92_1 := blk_frozen BK394.out 1) | ((with_reducible refine gate_callee (f := 23) rfl ?_); refine goesL_ (some 83) rfl rfl Tryd.func23 (by kernel_rfl) rfl #[.agg #[.int .i64 t385, .int .i64 t386, .int .i64 t387], .agg #[.int .i64 (wrap64 ((wrap64 (t389 - 15)) + (wrap64 (t392 - 15)))), .int .i64 (wrap64 ((wrap64 (t390 - 25)) + (wrap64 (t393 - 25))))]] rfl (by (try simp only [List.map_toArray, List.map_cons, List.map_nil]); first | done | rfl) ?_; (with_reducible refine (pitch_Up.calls k t385 t386 t387 (wrap64 ((wrap64 (t389 - 15)) + (wrap64 (t392 - 15)))) (wrap64 ((wrap64 (t390 - 25)) + (wrap64 (t393 - 25)))) t409 t410 t411 t412 _ ?side1 A14.out).mono ?_); (case side1 => exact GW.step HG_.out (by repeat (first | (with_reducible first | exact HB.out | apply below_alloc | apply pw_below_drewN | apply below_drew1 | refine below_set ?_ GE381.out | refine below_set ?_ GE382.out | refine below_set ?_ GE383.out | refine below_set ?_ GE388.out | refine below_set ?_ GE391.out | refine below_set ?_ GE394.out | refine below_set ?_ GE399.out | refine below_set ?_ GE403.out | refine below_set ?_ GE408.out) | exact HB.out))); rintro e w93 ⟨rfl, hb⟩; refine ⟨_, rfl, ?_⟩; have n0_ := A0 (blk_below (zz BK381) hb); have n1_ := A0 (blk_below (zz BK382) hb); have n2_ := A0 (blk_below (zz BK383) hb); have n3_ := A0 (blk_below (zz BK388) hb); have n4_ := A0 (blk_below (zz BK391) hb); have n5_ := A0 (blk_below (zz BK394) hb); have n6_ := A0 (blk_below (zz BK399) hb); have n7_ := A0 (blk_below (zz BK403) hb); have n8_ := A0 (blk_below (g := gb408) (o := .cells #[.int .i64 t404, .int .i64 t405, .int .i64 t406] 23 (0, 0)) (by (with_reducible repeat (first | refine bN ?_ _ | refine bD ?_ | refine bA ?_ _)); refine blk_put (cs := #[.int .i64 t404, .int .i64 t405, .int .i64 0]) ?_ 2 _ rfl; (with_reducible repeat (first | refine bN ?_ _ | refine bD ?_ | refine bA ?_ _)); refine blk_put (cs := #[.int .i64 t404, .int .i64 0, .int .i64 0]) ?_ 1 _ rfl; (with_reducible repeat (first | refine bN ?_ _ | refine bD ?_ | refine bA ?_ _)); refine blk_put (cs := #[.int .i64 0, .int .i64 0, .int .i64 0]) ?_ 0 _ rfl; (with_reducible repeat (first | refine bN ?_ _ | refine bD ?_ | refine bA ?_ _)); exact BK408.out) hb); have n9_ := A0 (below_step ww hb); clear BK381; clear BK382; clear BK383; clear BK388; clear BK391; clear BK394; clear BK399; clear BK403; clear BK408; clear HB; have BK381 := n0_; have BK382 := n1_; have BK383 := n2_; have BK388 := n3_; have BK391 := n4_; have BK394 := n5_; have BK399 := n6_; have BK403 := n7_; have BK408 := n8_; have HB := n9_; clear n0_ n1_ n2_ n3_ n4_ n5_ n6_ n7_ n8_ n9_; (try clear hb)) | ((with_reducible refine gate_dst (N := 17) rfl ?_); refine box_event ?hg (N := 17) ?hd (cs := #[.int .i64 0, .int .i64 0, .int .i64 0]) (t := 23) ?hr ?_; (case hd => rfl); (case hg => rfl); (case hr => go_simp); intro gb413 hg w94 hbox hb; have n0_ := A0 (blk_below (zz BK381) hb); have n1_ := A0 (blk_below (zz BK382) hb); have n2_ := A0 (blk_below (zz BK383) hb); have n3_ := A0 (blk_below (zz BK388) hb); have n4_ := A0 (blk_below (zz BK391) hb); have n5_ := A0 (blk_below (zz BK394) hb); have n6_ := A0 (blk_below (zz BK399) hb); have n7_ := A0 (blk_below (zz BK403) hb); have n8_ := A0 (blk_below (zz BK408) hb); have n9_ := A0 (below_step ww hb); have n10_ := A0 (hbox); have n11_ := A0 ((by rw [hg]; exact (below_size ww) : w.heap.size ≤ gb413)); have n12_ := n11_; have n13_ := A0 ((by rw [hg]; exact Nat.ne_of_lt (blk_lt (zz BK381)) : gb381 ≠ gb413)); have n14_ := A0 n13_.out.symm; have n15_ := A0 ((by rw [hg]; exact Nat.ne_of_lt (blk_lt (zz BK382)) : gb382 ≠ gb413)); have n16_ := A0 n15_.out.symm; have n17_ := A0 ((by rw [hg]; exact Nat.ne_of_lt (blk_lt (zz BK383)) : gb383 ≠ gb413)); have n18_ := A0 n17_.out.symm; have n19_ := A0 ((by rw [hg]; exact Nat.ne_of_lt (blk_lt (zz BK388)) : gb388 ≠ gb413)); have n20_ := A0 n19_.out.symm; have n21_ := A0 ((by rw [hg]; exact Nat.ne_of_lt (blk_lt (zz BK391)) : gb391 ≠ gb413)); have n22_ := A0 n21_.out.symm; have n23_ := A0 ((by rw [hg]; exact Nat.ne_of_lt (blk_lt (zz BK394)) : gb394 ≠ gb413)); have n24_ := A0 n23_.out.symm; have n25_ := A0 ((by rw [hg]; exact Nat.ne_of_lt (blk_lt (zz BK399)) : gb399 ≠ gb413)); have n26_ := A0 n25_.out.symm; have n27_ := A0 ((by rw [hg]; exact Nat.ne_of_lt (blk_lt (zz BK403)) : gb403 ≠ gb413)); have n28_ := A0 n27_.out.symm; have n29_ := A0 ((by rw [hg]; exact Nat.ne_of_lt (blk_lt (zz BK408)) : gb408 ≠ gb413)); have n30_ := A0 n29_.out.symm; clear BK381; clear BK382; clear BK383; clear BK388; clear BK391; clear BK394; clear BK399; clear BK403; clear BK408; clear HB; have BK381 := n0_; have BK382 := n1_; have BK383 := n2_; have BK388 := n3_; have BK391 := n4_; have BK394 := n5_; have BK399 := n6_; have BK403 := n7_; have BK408 := n8_; have HB := n9_; have BK413 := n10_; have GW413 := n11_; have GE413 := n12_; have NB381_413 := n13_; have NB413_381 := n14_; have NB382_413 := n15_; have NB413_382 := n16_; have NB383_413 := n17_; have NB413_383 := n18_; have NB388_413 := n19_; have NB413_388 := n20_; have NB391_413 := n21_; have NB413_391 := n22_; have NB394_413 := n23_; have NB413_394 := n24_; have NB399_413 := n25_; have NB413_399 := n26_; have NB403_413 := n27_; have NB413_403 := n28_; have NB408_413 := n29_; have NB413_408 := n30_; clear n0_ n1_ n2_ n3_ n4_ n5_ n6_ n7_ n8_ n9_ n10_ n11_ n12_ n13_ n14_ n15_ n16_ n17_ n18_ n19_ n20_ n21_ n22_ n23_ n24_ n25_ n26_ n27_ n28_ n29_ n30_; clear hb hbox hg; have hnb95 := NB413_381.out; have hnc95 := NB381_413.out; have hnb96 := NB413_382.out; have hnc96 := NB382_413.out; have hnb97 := NB413_383.out; have hnc97 := NB383_413.out; have hnb98 := NB413_388.out; have hnc98 := NB388_413.out; have hnb99 := NB413_391.out; have hnc99 := NB391_413.out; have hnb100 := NB413_394.out; have hnc100 := NB394_413.out; have hnb101 := NB413_399.out; have hnc101 := NB399_413.out; have hnb102 := NB413_403.out; have hnc102 := NB403_413.out; have hnb103 := NB413_408.out; have hnc103 := NB408_413.out; have hcz104_0 : w94.cell? ⟨gb413, 0, none⟩ = some (.int .i64 0) := (blk_cell BK413.out 0).trans rfl; have hcz104_1 : w94.cell? ⟨gb413, 1, none⟩ = some (.int .i64 0) := (blk_cell BK413.out 1).trans rfl; have hcz104_2 : w94.cell? ⟨gb413, 2, none⟩ = some (.int .i64 0) := (blk_cell BK413.out 2).trans rfl; have hfz104_0 := blk_frozen BK413.out 0; have hfz104_1 := blk_frozen BK413.out 1; have hfz104_2 := blk_frozen BK413.out 2; have hcz105_0 : w94.cell? ⟨gb403, 0, none⟩ = some (.int .i64 t400) := (blk_cell BK403.out 0).trans rfl; have hcz105_1 : w94.cell? ⟨gb403, 1, none⟩ = some (.int .i64 t401) := (blk_cell BK403.out 1).trans rfl; have hfz105_0 := blk_frozen BK403.out 0; have hfz105_1 := blk_frozen BK403.out 1; have hcz106_0 : w94.cell? ⟨gb391, 0, none⟩ = some (.int .i64 (wrap64 (t389 - 15))) := (blk_cell BK391.out 0).trans rfl; have hcz106_1 : w94.cell? ⟨gb391, 1, none⟩ = some (.int .i64 (wrap64 (t390 - 25))) := (blk_cell BK391.out 1).trans rfl; have hfz106_0 := blk_frozen BK391.out 0; have hfz106_1 := blk_frozen BK391.out 1; have hcz107_0 : w94.cell? ⟨gb408, 0, none⟩ = some (.int .i64 t404) := (blk_cell BK408.out 0).trans rfl; have hcz107_1 : w94.cell? ⟨gb408, 1, none⟩ = some (.int .i64 t405) := (blk_cell BK408.out 1).trans rfl; have hcz107_2 : w94.cell? ⟨gb408, 2, none⟩ = some (.int .i64 t406) := (blk_cell BK408.out 2).trans rfl; have hfz107_0 := blk_frozen BK408.out 0; have hfz107_1 := blk_frozen BK408.out 1; have hfz107_2 := blk_frozen BK408.out 2; have hcz108_0 : w94.cell? ⟨gb399, 0, none⟩ = some (.int .i64 t395) := (blk_cell BK399.out 0).trans rfl; have hcz108_1 : w94.cell? ⟨gb399, 1, none⟩ = some (.int .i64 t396) := (blk_cell BK399.out 1).trans rfl; have hcz108_2 : w94.cell? ⟨gb399, 2, none⟩ = some (.int .i64 t397) := (blk_cell BK399.out 2).trans rfl; have hfz108_0 := blk_frozen BK399.out 0; have hfz108_1 := blk_frozen BK399.out 1; have hfz108_2 := blk_frozen BK399.out 2) | (go_at_call 20; (with_reducible refine (pitch_Right.calls t395 t396 t397 t414 _ ?side1 A20.out).mono ?_); (case side1 => exact GW.step HG_.out (by repeat (first | (with_reducible first | exact HB.out | apply below_alloc | apply pw_below_drewN | apply below_drew1 | refine below_set ?_ GE381.out | refine below_set ?_ GE382.out | refine below_set ?_ GE383.out | refine below_set ?_ GE388.out | refine below_set ?_ GE391.out | refine below_set ?_ GE394.out | refine below_set ?_ GE399.out | refine below_set ?_ GE403.out | refine below_set ?_ GE408.out | refine below_set ?_ GE413.out) | exact HB.out))); rintro e w109 ⟨rfl, hb⟩; have n0_ := A0 (blk_below (zz BK381) hb); have n1_ := A0 (blk_below (zz BK382) hb); have n2_ := A0 (blk_below (zz BK383) hb); have n3_ := A0 (blk_below (zz BK388) hb); have n4_ := A0 (blk_below (zz BK391) hb); have n5_ := A0 (blk_below (zz BK394) hb); have n6_ := A0 (blk_below (zz BK399) hb); have n7_ := A0 (blk_below (zz BK403) hb); have n8_ := A0 (blk_below (zz BK408) hb); have n9_ := A0 (blk_below (g := gb413) (o := .cells #[.int .i64 t409, .int .i64 t410, .int .i64 t411] 23 (0, 0)) (by (with_reducible repeat (first | refine bN ?_ _ | refine bD ?_ | refine bA ?_ _)); refine blk_put (cs := #[.int .i64 t409, .int .i64 t410, .int .i64 0]) ?_ 2 _ rfl; (with_reducible repeat (first | refine bN ?_ _ | refine bD ?_ | refine bA ?_ _)); refine blk_put (cs := #[.int .i64 t409, .int .i64 0, .int .i64 0]) ?_ 1 _ rfl; (with_reducible repeat (first | refine bN ?_ _ | refine bD ?_ | refine bA ?_ _)); refine blk_put (cs := #[.int .i64 0, .int .i64 0, .int .i64 0]) ?_ 0 _ rfl; (with_reducible repeat (first | refine bN ?_ _ | refine bD ?_ | refine bA ?_ _)); exact BK413.out) hb); have n10_ := A0 (below_step ww hb); clear BK381; clear BK382; clear BK383; clear BK388; clear BK391; clear BK394; clear BK399; clear BK403; clear BK408; clear BK413; clear HB; have BK381 := n0_; have BK382 := n1_; have BK383 := n2_; have BK388 := n3_; have BK391 := n4_; have BK394 := n5_; have BK399 := n6_; have BK403 := n7_; have BK408 := n8_; have BK413 := n9_; have HB := n10_; clear n0_ n1_ n2_ n3_ n4_ n5_ n6_ n7_ n8_ n9_ n10_; (try clear hb)))
        go_ret
        exact ⟨by first | rfl | (simp [*]; done), by repeat (first | (with_reducible first | exact HB.out | apply below_alloc | apply pw_below_drewN | apply below_drew1 | refine below_set ?_ GE381.out | refine below_set ?_ GE382.out | refine below_set ?_ GE383.out | refine below_set ?_ GE388.out | refine below_set ?_ GE391.out | refine below_set ?_ GE394.out | refine below_set ?_ GE399.out | refine below_set ?_ GE403.out | refine below_set ?_ GE408.out | refine below_set ?_ GE413.out) | exact HB.out)⟩
       ·rw [if_neg c19] at H
        have c19b0 : (t404 == t409 && (t405 == t410 && (t406 == t411))) = false := by simpa using c19
        (try (have c19b1 : decide (t404 = t409 && (t405 == t410 && (t406 == t411))) = false := by simpa using c19))
        (try (have c19b2 : (t404 == t409 && (t405 == t410 && (t406 == t411))) = false := by simpa using c19))
        (try (have c19b3 : ¬ (t404 = t409 && (t405 == t410 && (t406 == t411))) := by simpa using c19))
        clear c19
        exact absurd H (by rw [HR_.out]; simp)
      ·rw [if_neg c18] at H
       have c18b0 : (t407 == t412) = false := beq_eq_false_iff_ne.mpr c18
       have c18b1 : (t407 != t412) = true := bne_iff_ne.mpr c18
       exact absurd H (by rw [HR_.out]; simp)
     ·rw [if_neg c17] at H
      have c17b0 : (t400 == (wrap64 (t389 - 15)) && (t401 == (wrap64 (t390 - 25)))) = false := by simpa using c17
      (try (have c17b1 : decide (t400 = (wrap64 (t389 - 15)) && (t401 == (wrap64 (t390 - 25)))) = false := by simpa using c17))
      (try (have c17b2 : (t400 == (wrap64 (t389 - 15)) && (t401 == (wrap64 (t390 - 25)))) = false := by simpa using c17))
      (try (have c17b3 : ¬ (t400 = (wrap64 (t389 - 15)) && (t401 == (wrap64 (t390 - 25)))) := by simpa using c17))
      clear c17
      exact absurd H (by rw [HR_.out]; simp)
    ·rw [if_neg c16] at H
     have c16b0 : (t402 == 0) = false := beq_eq_false_iff_ne.mpr c16
     have c16b1 : (t402 != 0) = true := bne_iff_ne.mpr c16
     exact absurd H (by rw [HR_.out]; simp)
   ·replace c15 := Bool.eq_false_iff.mpr c15
    subst c15
    have H1 : (some false) = some r := by rw [if_neg (show ¬ (false = true) by decide)] at H; exact H
    clear H; have H := H1; clear H1
    exact absurd H (by rw [HR_.out]; simp)
  ·rw [if_neg c11] at H
   have c11b0 : (t398 == 0) = false := beq_eq_false_iff_ne.mpr c11
   have c11b1 : (t398 != 0) = true := bne_iff_ne.mpr c11
   by_cases c110 : t384 = true
   ·subst c110
    have H1 : (if t398 = 20 then (some (t395 == 0 && (t396 == 0 && (t397 == 0)))) else (some false)) = some r := by rw [if_pos rfl] at H; exact H
    clear H; have H := H1; clear H1
    by_cases c111 : t398 = 20
    ·rw [if_pos c111] at H
     have c111b0 : (t398 == 20) = true := beq_iff_eq.mpr c111
     have c111b1 : (t398 != 20) = false := bne_eq_false_iff_eq.mpr c111
     clear c111
     obtain rfl := Option.some.inj H
     go_enter Tryd.func7, Tryd.ntmps7
     try go_wp2_with (first | ((with_reducible refine gate_dst (N := 3) rfl ?_); refine box_event ?hg (N := 3) ?hd (cs := #[.int .i64 a0_0, .int .i64 a0_1, .int .i64 a0_2]) (t := 23) ?hr ?_; (case hd => rfl); (case hg => rfl); (case hr => go_simp); intro gb381 hg w112 hbox hb; have n0_ := A0 (below_step ww hb); have n1_ := A0 (hbox); have n2_ := A0 ((by rw [hg]; exact (below_size ww) : w.heap.size ≤ gb381)); have n3_ := n2_; clear HB; have HB := n0_; have BK381 := n1_; have GW381 := n2_; have GE381 := n3_; clear n0_ n1_ n2_ n3_; clear hb hbox hg) | ((with_reducible refine gate_dst (N := 4) rfl ?_); refine box_event ?hg (N := 4) ?hd (cs := #[.int .i64 a1_0, .int .i64 a1_1]) (t := 25) ?hr ?_; (case hd => rfl); (case hg => rfl); (case hr => go_simp); intro gb382 hg w113 hbox hb; have n0_ := A0 (blk_below (zz BK381) hb); have n1_ := A0 (below_step ww hb); have n2_ := A0 (hbox); have n3_ := A0 ((by rw [hg]; exact (below_size ww) : w.heap.size ≤ gb382)); have n4_ := n3_; have n5_ := A0 ((by rw [hg]; exact Nat.ne_of_lt (blk_lt (zz BK381)) : gb381 ≠ gb382)); have n6_ := A0 n5_.out.symm; clear BK381; clear HB; have BK381 := n0_; have HB := n1_; have BK382 := n2_; have GW382 := n3_; have GE382 := n4_; have NB381_382 := n5_; have NB382_381 := n6_; clear n0_ n1_ n2_ n3_ n4_ n5_ n6_; clear hb hbox hg) | ((with_reducible refine gate_dst (N := 5) rfl ?_); refine box_event ?hg (N := 5) ?hd (cs := #[.int .i64 a2_0, .int .i64 a2_1]) (t := 25) ?hr ?_; (case hd => rfl); (case hg => rfl); (case hr => go_simp); intro gb383 hg w114 hbox hb; have n0_ := A0 (blk_below (zz BK381) hb); have n1_ := A0 (blk_below (zz BK382) hb); have n2_ := A0 (below_step ww hb); have n3_ := A0 (hbox); have n4_ := A0 ((by rw [hg]; exact (below_size ww) : w.heap.size ≤ gb383)); have n5_ := n4_; have n6_ := A0 ((by rw [hg]; exact Nat.ne_of_lt (blk_lt (zz BK381)) : gb381 ≠ gb383)); have n7_ := A0 n6_.out.symm; have n8_ := A0 ((by rw [hg]; exact Nat.ne_of_lt (blk_lt (zz BK382)) : gb382 ≠ gb383)); have n9_ := A0 n8_.out.symm; clear BK381; clear BK382; clear HB; have BK381 := n0_; have BK382 := n1_; have HB := n2_; have BK383 := n3_; have GW383 := n4_; have GE383 := n5_; have NB381_383 := n6_; have NB383_381 := n7_; have NB382_383 := n8_; have NB383_382 := n9_; clear n0_ n1_ n2_ n3_ n4_ n5_ n6_ n7_ n8_ n9_; clear hb hbox hg) | ((with_reducible refine gate_callee (f := 12) rfl ?_); refine goesL_ (some 19) rfl rfl Tryd.func12 (by kernel_rfl) rfl #[] rfl (by (try simp only [List.map_toArray, List.map_cons, List.map_nil]); first | done | rfl) ?_; (with_reducible refine (partitalaw02_awake.calls k  true _ ?side1 A4.out).mono ?_); (case side1 => exact GW.step HG_.out (by repeat (first | (with_reducible first | exact HB.out | apply below_alloc | apply pw_below_drewN | apply below_drew1 | refine below_set ?_ GE381.out | refine below_set ?_ GE382.out | refine below_set ?_ GE383.out) | exact HB.out))); rintro e w115 ⟨rfl, hb⟩; refine ⟨_, rfl, ?_⟩; have n0_ := A0 (blk_below (zz BK381) hb); have n1_ := A0 (blk_below (zz BK382) hb); have n2_ := A0 (blk_below (zz BK383) hb); have n3_ := A0 (below_step ww hb); clear BK381; clear BK382; clear BK383; clear HB; have BK381 := n0_; have BK382 := n1_; have BK383 := n2_; have HB := n3_; clear n0_ n1_ n2_ n3_; (try clear hb); have hnb116 := NB381_382.out; have hnc116 := NB382_381.out; have hnb117 := NB381_383.out; have hnc117 := NB383_381.out; have hcz118_0 : w115.cell? ⟨gb381, 0, none⟩ = some (.int .i64 a0_0) := (blk_cell BK381.out 0).trans rfl; have hcz118_1 : w115.cell? ⟨gb381, 1, none⟩ = some (.int .i64 a0_1) := (blk_cell BK381.out 1).trans rfl; have hcz118_2 : w115.cell? ⟨gb381, 2, none⟩ = some (.int .i64 a0_2) := (blk_cell BK381.out 2).trans rfl; have hfz118_0 := blk_frozen BK381.out 0; have hfz118_1 := blk_frozen BK381.out 1; have hfz118_2 := blk_frozen BK381.out 2) | ((with_reducible refine gate_callee (f := 13) rfl ?_); refine goesL_ (some 21) rfl rfl Tryd.func13 (by kernel_rfl) rfl #[.agg #[.int .i64 a0_0, .int .i64 a0_1, .int .i64 a0_2]] rfl (by (try simp only [List.map_toArray, List.map_cons, List.map_nil]); first | done | rfl) ?_; (with_reducible refine (partitalaw02_Pitch.calls a0_0 a0_1 a0_2 t385 t386 t387 _ A5.out).mono ?_); rintro e w119 ⟨rfl, hb⟩; refine ⟨_, rfl, ?_⟩; have n0_ := A0 (blk_below (zz BK381) hb); have n1_ := A0 (blk_below (zz BK382) hb); have n2_ := A0 (blk_below (zz BK383) hb); have n3_ := A0 (below_step ww hb); clear BK381; clear BK382; clear BK383; clear HB; have BK381 := n0_; have BK382 := n1_; have BK383 := n2_; have HB := n3_; clear n0_ n1_ n2_ n3_; (try clear hb)) | ((with_reducible refine gate_dst (N := 8) rfl ?_); refine box_event ?hg (N := 8) ?hd (cs := #[.int .i64 0, .int .i64 0, .int .i64 0]) (t := 23) ?hr ?_; (case hd => rfl); (case hg => rfl); (case hr => go_simp); intro gb388 hg w120 hbox hb; have n0_ := A0 (blk_below (zz BK381) hb); have n1_ := A0 (blk_below (zz BK382) hb); have n2_ := A0 (blk_below (zz BK383) hb); have n3_ := A0 (below_step ww hb); have n4_ := A0 (hbox); have n5_ := A0 ((by rw [hg]; exact (below_size ww) : w.heap.size ≤ gb388)); have n6_ := n5_; have n7_ := A0 ((by rw [hg]; exact Nat.ne_of_lt (blk_lt (zz BK381)) : gb381 ≠ gb388)); have n8_ := A0 n7_.out.symm; have n9_ := A0 ((by rw [hg]; exact Nat.ne_of_lt (blk_lt (zz BK382)) : gb382 ≠ gb388)); have n10_ := A0 n9_.out.symm; have n11_ := A0 ((by rw [hg]; exact Nat.ne_of_lt (blk_lt (zz BK383)) : gb383 ≠ gb388)); have n12_ := A0 n11_.out.symm; clear BK381; clear BK382; clear BK383; clear HB; have BK381 := n0_; have BK382 := n1_; have BK383 := n2_; have HB := n3_; have BK388 := n4_; have GW388 := n5_; have GE388 := n6_; have NB381_388 := n7_; have NB388_381 := n8_; have NB382_388 := n9_; have NB388_382 := n10_; have NB383_388 := n11_; have NB388_383 := n12_; clear n0_ n1_ n2_ n3_ n4_ n5_ n6_ n7_ n8_ n9_ n10_ n11_ n12_; clear hb hbox hg; have hnb121 := NB388_381.out; have hnc121 := NB381_388.out; have hnb122 := NB388_382.out; have hnc122 := NB382_388.out; have hnb123 := NB388_383.out; have hnc123 := NB383_388.out; have hcz124_0 : w120.cell? ⟨gb388, 0, none⟩ = some (.int .i64 0) := (blk_cell BK388.out 0).trans rfl; have hcz124_1 : w120.cell? ⟨gb388, 1, none⟩ = some (.int .i64 0) := (blk_cell BK388.out 1).trans rfl; have hcz124_2 : w120.cell? ⟨gb388, 2, none⟩ = some (.int .i64 0) := (blk_cell BK388.out 2).trans rfl; have hfz124_0 := blk_frozen BK388.out 0; have hfz124_1 := blk_frozen BK388.out 1; have hfz124_2 := blk_frozen BK388.out 2))
     have n0_ : Aside0 ((((w120.setCell ⟨gb388, 0, none⟩ (.int .i64 t385)).setCell ⟨gb388, 1, none⟩ (.int .i64 t386)).setCell ⟨gb388, 2, none⟩ (.int .i64 t387)).heap[gb381]? = some (.cells #[.int .i64 a0_0, .int .i64 a0_1, .int .i64 a0_2] 23 (0, 0))) := ⟨zz BK381⟩
     have n1_ : Aside0 ((((w120.setCell ⟨gb388, 0, none⟩ (.int .i64 t385)).setCell ⟨gb388, 1, none⟩ (.int .i64 t386)).setCell ⟨gb388, 2, none⟩ (.int .i64 t387)).heap[gb382]? = some (.cells #[.int .i64 a1_0, .int .i64 a1_1] 25 (0, 0))) := ⟨zz BK382⟩
     have n2_ : Aside0 ((((w120.setCell ⟨gb388, 0, none⟩ (.int .i64 t385)).setCell ⟨gb388, 1, none⟩ (.int .i64 t386)).setCell ⟨gb388, 2, none⟩ (.int .i64 t387)).heap[gb383]? = some (.cells #[.int .i64 a2_0, .int .i64 a2_1] 25 (0, 0))) := ⟨zz BK383⟩
     have n3_ : Aside0 ((((w120.setCell ⟨gb388, 0, none⟩ (.int .i64 t385)).setCell ⟨gb388, 1, none⟩ (.int .i64 t386)).setCell ⟨gb388, 2, none⟩ (.int .i64 t387)).heap[gb388]? = some (.cells #[.int .i64 t385, .int .i64 t386, .int .i64 t387] 23 (0, 0))) := ⟨by (with_reducible repeat (first | refine bN ?_ _ | refine bD ?_ | refine bA ?_ _)); refine blk_put (cs := #[.int .i64 t385, .int .i64 t386, .int .i64 0]) ?_ 2 _ rfl; (with_reducible repeat (first | refine bN ?_ _ | refine bD ?_ | refine bA ?_ _)); refine blk_put (cs := #[.int .i64 t385, .int .i64 0, .int .i64 0]) ?_ 1 _ rfl; (with_reducible repeat (first | refine bN ?_ _ | refine bD ?_ | refine bA ?_ _)); refine blk_put (cs := #[.int .i64 0, .int .i64 0, .int .i64 0]) ?_ 0 _ rfl; (with_reducible repeat (first | refine bN ?_ _ | refine bD ?_ | refine bA ?_ _)); exact BK388.out⟩
     have n4_ : Aside0 (Below w.heap.size w (((w120.setCell ⟨gb388, 0, none⟩ (.int .i64 t385)).setCell ⟨gb388, 1, none⟩ (.int .i64 t386)).setCell ⟨gb388, 2, none⟩ (.int .i64 t387))) := ⟨by repeat (first | (with_reducible first | exact HB.out | apply below_alloc | apply pw_below_drewN | apply below_drew1 | refine below_set ?_ GE381.out | refine below_set ?_ GE382.out | refine below_set ?_ GE383.out | refine below_set ?_ GE388.out) | exact HB.out)⟩
     (try clear BK381); (try clear BK382); (try clear BK383); (try clear BK388); (try clear HB)
     generalize (((w120.setCell ⟨gb388, 0, none⟩ (.int .i64 t385)).setCell ⟨gb388, 1, none⟩ (.int .i64 t386)).setCell ⟨gb388, 2, none⟩ (.int .i64 t387)) = w125 at n0_ n1_ n2_ n3_ n4_ ⊢
     have BK381 := n0_; have BK382 := n1_; have BK383 := n2_; have BK388 := n3_; have HB := n4_; clear n0_ n1_ n2_ n3_ n4_; have n0_ := A0 (blk_drew BK381.out); have n1_ := A0 (blk_drew BK382.out); have n2_ := A0 (blk_drew BK383.out); have n3_ := A0 (blk_drew BK388.out); have n4_ := A0 (below_drew1 HB.out); clear BK381; clear BK382; clear BK383; clear BK388; clear HB; have BK381 := n0_; have BK382 := n1_; have BK383 := n2_; have BK388 := n3_; have HB := n4_; clear n0_ n1_ n2_ n3_ n4_
     refine start_ (n := 11) (S := fun w' => w'.cell? ⟨gb382, 0, none⟩ = some (.int .i64 a1_0) ∧ w'.cell? ⟨gb382, 1, none⟩ = some (.int .i64 a1_1)) (ds := []) b0_b (by kernel_rfl) rfl rfl ⟨(blk_cell BK382.out 0).trans rfl, (blk_cell BK382.out 1).trans rfl⟩ (fun hHeld => ?_); refine with_tabW partitalaw02_PitchChain.tab3 partitalaw02_PitchChain.bits3 (fun HT_ HW_ => ?_)
     generalize w125.drew = w126 at BK381 BK382 BK383 BK388 HB hHeld ⊢
     refine pure_ (i := 0) (N := some 22) (v := ?_) (a' := ?_) b1_b rfl rfl (any_of HT_.out (by kernel_rfl)) (fun _ _ _ h => h) (Or.inl ⟨by rfl, ?_⟩) ?_ ?_
     rotate_left
     ·intro w'; go_simp; with_reducible rfl
     rotate_left
     ·simp only [Act.put, q1, q2, q3, i64_w, i32_w]; rfl
     refine pure_ (i := 4) (N := some 26) (v := ?_) (a' := ?_) b2_b rfl rfl (any_of HT_.out (by kernel_rfl)) (fun _ _ _ h => h) (Or.inl ⟨by rfl, ?_⟩) ?_ ?_
     rotate_left
     ·intro w'; go_simp; with_reducible rfl
     rotate_left
     ·simp only [Act.put, q1, q2, q3, i64_w, i32_w]; rfl
     refine take_ (i := 1) (N := some 23) (v := ?_) (a' := ?_) b3_b rfl rfl (take_ofW HT_.out HW_.out (by kernel_rfl)) (fun _ _ _ h => h) (Or.inl ⟨by rfl, ?_⟩) hHeld ?_ ?_
     rotate_left
     ·rintro w' ⟨s0, s1⟩
      go_simp; with_reducible rfl
     rotate_left
     ·simp only [Act.put, q1, q2, q3, i64_w, i32_w]; rfl
     refine take_ (i := 5) (N := some 27) (v := ?_) (a' := ?_) b4_b rfl rfl (take_ofW HT_.out HW_.out (by kernel_rfl)) (fun _ _ _ h => h) (Or.inl ⟨by rfl, ?_⟩) hHeld ?_ ?_
     rotate_left
     ·rintro w' ⟨s0, s1⟩
      go_simp; with_reducible rfl
     rotate_left
     ·simp only [Act.put, q1, q2, q3, i64_w, i32_w]; rfl
     refine join_ (σ := Nat) 1 b5_b (fun s_ => [(24, .int .i64 t389), (28, .int .i64 t390), (9, .pointer (some ⟨s_, 0, none⟩)), (25, .int .i64 (wrap64 (t389 - 15))), (29, .int .i64 (wrap64 (t390 - 25))), (30, .agg #[.int .i64 (wrap64 (t389 - 15)), .int .i64 (wrap64 (t390 - 25))])]) (fun s_ w' => (w'.cell? ⟨gb382, 0, none⟩ = some (.int .i64 a1_0) ∧ w'.cell? ⟨gb382, 1, none⟩ = some (.int .i64 a1_1)) ∧ (w'.heap[gb381]? = some (.cells #[.int .i64 a0_0, .int .i64 a0_1, .int .i64 a0_2] 23 (0, 0))) ∧ (w'.heap[gb382]? = some (.cells #[.int .i64 a1_0, .int .i64 a1_1] 25 (0, 0))) ∧ (w'.heap[gb383]? = some (.cells #[.int .i64 a2_0, .int .i64 a2_1] 25 (0, 0))) ∧ (w'.heap[gb388]? = some (.cells #[.int .i64 t385, .int .i64 t386, .int .i64 t387] 23 (0, 0))) ∧ (w'.heap[s_]? = some (.cells #[.int .i64 0, .int .i64 0] 25 (0, 0))) ∧ (w.heap.size ≤ s_) ∧ (w.heap.size ≤ s_) ∧ (gb381 ≠ s_) ∧ (s_ ≠ gb381) ∧ (gb382 ≠ s_) ∧ (s_ ≠ gb382) ∧ (gb383 ≠ s_) ∧ (s_ ≠ gb383) ∧ (gb388 ≠ s_) ∧ (s_ ≠ gb388) ∧ (Below w.heap.size w w')) ?_ ?_
     rotate_left
     ·intro hCont
      refine two_ (i := 2) (j := 9) (Ni := some 24) (Nj := some 9) b6_b b7_b rfl rfl rfl rfl (two_of HT_.out (by kernel_rfl)) (by decide) (by decide) (fun K hK => ?_) (fun K hK => ?_)
      ·skip
       refine goes_ Tryd.func22 (by kernel_rfl) rfl #[.int .i64 a1_0, .int .i64 31] (by rfl) rfl rfl (by (try simp only [List.map_toArray, List.map_cons, List.map_nil]); first | done | rfl) ?_
       with_reducible refine (partitalaw02_pick.calls a1_0 31 t389 _ A6.out).mono ?_
       rintro e w' ⟨rfl, ⟨nd, rfl⟩⟩
       refine ⟨_, rfl, ?_⟩
       refine hK.out _ _ ⟨(blk_cell BK382.out 0).trans rfl, (blk_cell BK382.out 1).trans rfl⟩ (fun hHeld => ?_)
       clear hK K
       refine norm_ (a' := ?_) ?_ ?_
       rotate_left
       ·show Act.put _ (some 24) _ = _
        simp only [Act.put, q1, q2, q3, i64_w, i32_w]; rfl
       refine pure_ (i := 3) (N := some 25) (v := ?_) (a' := ?_) b8_b rfl rfl (any_of HT_.out (by kernel_rfl)) (fun _ _ _ h => h) (Or.inl ⟨by rfl, ?_⟩) ?_ ?_
       rotate_left
       ·intro w'; go_simp; with_reducible rfl
       rotate_left
       ·simp only [Act.put, q1, q2, q3, i64_w, i32_w]; rfl
       refine two_ (i := 6) (j := 9) (Ni := some 28) (Nj := some 9) b9_b b10_b rfl rfl rfl rfl (two_of HT_.out (by kernel_rfl)) (by decide) (by decide) (fun K hK => ?_) (fun K hK => ?_)
       ·skip
        refine goes_ Tryd.func22 (by kernel_rfl) rfl #[.int .i64 a1_1, .int .i64 51] (by rfl) rfl rfl (by (try simp only [List.map_toArray, List.map_cons, List.map_nil]); first | done | rfl) ?_
        with_reducible refine (partitalaw02_pick.calls a1_1 51 t390 _ A7.out).mono ?_
        rintro e w' ⟨rfl, ⟨nd, rfl⟩⟩
        refine ⟨_, rfl, ?_⟩
        refine hK.out _ _ ⟨(blk_cell BK382.out 0).trans rfl, (blk_cell BK382.out 1).trans rfl⟩ (fun hHeld => ?_)
        clear hK K
        refine norm_ (a' := ?_) ?_ ?_
        rotate_left
        ·show Act.put _ (some 28) _ = _
         simp only [Act.put, q1, q2, q3, i64_w, i32_w]; rfl
        refine pure_ (i := 7) (N := some 29) (v := ?_) (a' := ?_) b11_b rfl rfl (any_of HT_.out (by kernel_rfl)) (fun _ _ _ h => h) (Or.inl ⟨by rfl, ?_⟩) ?_ ?_
        rotate_left
        ·intro w'; go_simp; with_reducible rfl
        rotate_left
        ·simp only [Act.put, q1, q2, q3, i64_w, i32_w]; rfl
        refine pure_ (i := 8) (N := some 30) (v := ?_) (a' := ?_) b12_b rfl rfl (any_of HT_.out (by kernel_rfl)) (fun _ _ _ h => h) (Or.inl ⟨by rfl, ?_⟩) ?_ ?_
        rotate_left
        ·intro w'; go_simp; with_reducible rfl
        rotate_left
        ·simp only [Act.put, q1, q2, q3, i64_w, i32_w]; rfl
        refine one_ (i := 9) (N := some 9) b5_b rfl rfl (one_of HT_.out (by kernel_rfl)) (by decide) (fun K hK => ?_)
        refine box_step ?hg (N := 9) ?hd (cs := #[.int .i64 0, .int .i64 0]) (t := 25) ?hr ?_; (case hd => rfl); (case hg => rfl); (case hr => go_simp)
        intro gb391 hg w127 hbox hb; have n0_ := A0 (blk_below (zz BK381) hb); have n1_ := A0 (blk_below (zz BK382) hb); have n2_ := A0 (blk_below (zz BK383) hb); have n3_ := A0 (blk_below (zz BK388) hb); have n4_ := A0 (below_step ww hb); have n5_ := A0 (hbox); have n6_ := A0 ((by rw [hg]; exact (below_size ww) : w.heap.size ≤ gb391)); have n7_ := n6_; have n8_ := A0 ((by rw [hg]; exact Nat.ne_of_lt (blk_lt (zz BK381)) : gb381 ≠ gb391)); have n9_ := A0 n8_.out.symm; have n10_ := A0 ((by rw [hg]; exact Nat.ne_of_lt (blk_lt (zz BK382)) : gb382 ≠ gb391)); have n11_ := A0 n10_.out.symm; have n12_ := A0 ((by rw [hg]; exact Nat.ne_of_lt (blk_lt (zz BK383)) : gb383 ≠ gb391)); have n13_ := A0 n12_.out.symm; have n14_ := A0 ((by rw [hg]; exact Nat.ne_of_lt (blk_lt (zz BK388)) : gb388 ≠ gb391)); have n15_ := A0 n14_.out.symm; clear BK381; clear BK382; clear BK383; clear BK388; clear HB; have BK381 := n0_; have BK382 := n1_; have BK383 := n2_; have BK388 := n3_; have HB := n4_; have BK391 := n5_; have GW391 := n6_; have GE391 := n7_; have NB381_391 := n8_; have NB391_381 := n9_; have NB382_391 := n10_; have NB391_382 := n11_; have NB383_391 := n12_; have NB391_383 := n13_; have NB388_391 := n14_; have NB391_388 := n15_; clear n0_ n1_ n2_ n3_ n4_ n5_ n6_ n7_ n8_ n9_ n10_ n11_ n12_ n13_ n14_ n15_; clear hb hbox hg
        refine hK.out _ _ ⟨(blk_cell BK382.out 0).trans rfl, (blk_cell BK382.out 1).trans rfl⟩ (fun hHeld => ?_)
        clear hK K
        refine norm_ (a' := ?_) ?_ ?_
        rotate_left
        ·show Act.put _ (some 9) _ = _
         simp only [Act.put, q1, q2, q3, i64_w, i32_w]; rfl
        exact norm_ (by simp only [putAll, Act.put, q1, q2, q3]) (hCont (gb391) _ ⟨hHeld, (zz BK381), (zz BK382), (zz BK383), (zz BK388), (zz BK391), GW391.out, GE391.out, NB381_391.out, NB391_381.out, NB382_391.out, NB391_382.out, NB383_391.out, NB391_383.out, NB388_391.out, NB391_388.out, (by repeat (first | (with_reducible first | exact HB.out | apply below_alloc | apply pw_below_drewN | apply below_drew1 | refine below_set ?_ GE381.out | refine below_set ?_ GE382.out | refine below_set ?_ GE383.out | refine below_set ?_ GE388.out | refine below_set ?_ GE391.out) | exact HB.out))⟩)
       ·skip
        refine box_step ?hg (N := 9) ?hd (cs := #[.int .i64 0, .int .i64 0]) (t := 25) ?hr ?_; (case hd => rfl); (case hg => rfl); (case hr => go_simp)
        intro gb391 hg w127 hbox hb; have n0_ := A0 (blk_below (zz BK381) hb); have n1_ := A0 (blk_below (zz BK382) hb); have n2_ := A0 (blk_below (zz BK383) hb); have n3_ := A0 (blk_below (zz BK388) hb); have n4_ := A0 (below_step ww hb); have n5_ := A0 (hbox); have n6_ := A0 ((by rw [hg]; exact (below_size ww) : w.heap.size ≤ gb391)); have n7_ := n6_; have n8_ := A0 ((by rw [hg]; exact Nat.ne_of_lt (blk_lt (zz BK381)) : gb381 ≠ gb391)); have n9_ := A0 n8_.out.symm; have n10_ := A0 ((by rw [hg]; exact Nat.ne_of_lt (blk_lt (zz BK382)) : gb382 ≠ gb391)); have n11_ := A0 n10_.out.symm; have n12_ := A0 ((by rw [hg]; exact Nat.ne_of_lt (blk_lt (zz BK383)) : gb383 ≠ gb391)); have n13_ := A0 n12_.out.symm; have n14_ := A0 ((by rw [hg]; exact Nat.ne_of_lt (blk_lt (zz BK388)) : gb388 ≠ gb391)); have n15_ := A0 n14_.out.symm; clear BK381; clear BK382; clear BK383; clear BK388; clear HB; have BK381 := n0_; have BK382 := n1_; have BK383 := n2_; have BK388 := n3_; have HB := n4_; have BK391 := n5_; have GW391 := n6_; have GE391 := n7_; have NB381_391 := n8_; have NB391_381 := n9_; have NB382_391 := n10_; have NB391_382 := n11_; have NB383_391 := n12_; have NB391_383 := n13_; have NB388_391 := n14_; have NB391_388 := n15_; clear n0_ n1_ n2_ n3_ n4_ n5_ n6_ n7_ n8_ n9_ n10_ n11_ n12_ n13_ n14_ n15_; clear hb hbox hg
        refine hK.out _ _ ⟨(blk_cell BK382.out 0).trans rfl, (blk_cell BK382.out 1).trans rfl⟩ (fun hHeld => ?_)
        clear hK K
        refine norm_ (a' := ?_) ?_ ?_
        rotate_left
        ·show Act.put _ (some 9) _ = _
         simp only [Act.put, q1, q2, q3, i64_w, i32_w]; rfl
        refine one_ (i := 6) (N := some 28) b13_b rfl rfl (one_of HT_.out (by kernel_rfl)) (by decide) (fun K hK => ?_)
        refine goes_ Tryd.func22 (by kernel_rfl) rfl #[.int .i64 a1_1, .int .i64 51] (by rfl) rfl rfl (by (try simp only [List.map_toArray, List.map_cons, List.map_nil]); first | done | rfl) ?_
        with_reducible refine (partitalaw02_pick.calls a1_1 51 t390 _ A7.out).mono ?_
        rintro e w' ⟨rfl, ⟨nd, rfl⟩⟩
        refine ⟨_, rfl, ?_⟩
        refine hK.out _ _ ⟨(blk_cell BK382.out 0).trans rfl, (blk_cell BK382.out 1).trans rfl⟩ (fun hHeld => ?_)
        clear hK K
        refine norm_ (a' := ?_) ?_ ?_
        rotate_left
        ·show Act.put _ (some 28) _ = _
         simp only [Act.put, q1, q2, q3, i64_w, i32_w]; rfl
        refine pure_ (i := 7) (N := some 29) (v := ?_) (a' := ?_) b14_b rfl rfl (any_of HT_.out (by kernel_rfl)) (fun _ _ _ h => h) (Or.inl ⟨by rfl, ?_⟩) ?_ ?_
        rotate_left
        ·intro w'; go_simp; with_reducible rfl
        rotate_left
        ·simp only [Act.put, q1, q2, q3, i64_w, i32_w]; rfl
        refine pure_ (i := 8) (N := some 30) (v := ?_) (a' := ?_) b5_b rfl rfl (any_of HT_.out (by kernel_rfl)) (fun _ _ _ h => h) (Or.inl ⟨by rfl, ?_⟩) ?_ ?_
        rotate_left
        ·intro w'; go_simp; with_reducible rfl
        rotate_left
        ·simp only [Act.put, q1, q2, q3, i64_w, i32_w]; rfl
        exact norm_ (by simp only [putAll, Act.put, q1, q2, q3]) (hCont (gb391) _ ⟨hHeld, (zz BK381), (zz BK382), (zz BK383), (zz BK388), (zz BK391), GW391.out, GE391.out, NB381_391.out, NB391_381.out, NB382_391.out, NB391_382.out, NB383_391.out, NB391_383.out, NB388_391.out, NB391_388.out, (by repeat (first | (with_reducible first | exact HB.out | apply below_alloc | apply pw_below_drewN | apply below_drew1 | refine below_set ?_ GE381.out | refine below_set ?_ GE382.out | refine below_set ?_ GE383.out | refine below_set ?_ GE388.out | refine below_set ?_ GE391.out) | exact HB.out))⟩)
      ·skip
       refine box_step ?hg (N := 9) ?hd (cs := #[.int .i64 0, .int .i64 0]) (t := 25) ?hr ?_; (case hd => rfl); (case hg => rfl); (case hr => go_simp)
       intro gb391 hg w127 hbox hb; have n0_ := A0 (blk_below (zz BK381) hb); have n1_ := A0 (blk_below (zz BK382) hb); have n2_ := A0 (blk_below (zz BK383) hb); have n3_ := A0 (blk_below (zz BK388) hb); have n4_ := A0 (below_step ww hb); have n5_ := A0 (hbox); have n6_ := A0 ((by rw [hg]; exact (below_size ww) : w.heap.size ≤ gb391)); have n7_ := n6_; have n8_ := A0 ((by rw [hg]; exact Nat.ne_of_lt (blk_lt (zz BK381)) : gb381 ≠ gb391)); have n9_ := A0 n8_.out.symm; have n10_ := A0 ((by rw [hg]; exact Nat.ne_of_lt (blk_lt (zz BK382)) : gb382 ≠ gb391)); have n11_ := A0 n10_.out.symm; have n12_ := A0 ((by rw [hg]; exact Nat.ne_of_lt (blk_lt (zz BK383)) : gb383 ≠ gb391)); have n13_ := A0 n12_.out.symm; have n14_ := A0 ((by rw [hg]; exact Nat.ne_of_lt (blk_lt (zz BK388)) : gb388 ≠ gb391)); have n15_ := A0 n14_.out.symm; clear BK381; clear BK382; clear BK383; clear BK388; clear HB; have BK381 := n0_; have BK382 := n1_; have BK383 := n2_; have BK388 := n3_; have HB := n4_; have BK391 := n5_; have GW391 := n6_; have GE391 := n7_; have NB381_391 := n8_; have NB391_381 := n9_; have NB382_391 := n10_; have NB391_382 := n11_; have NB383_391 := n12_; have NB391_383 := n13_; have NB388_391 := n14_; have NB391_388 := n15_; clear n0_ n1_ n2_ n3_ n4_ n5_ n6_ n7_ n8_ n9_ n10_ n11_ n12_ n13_ n14_ n15_; clear hb hbox hg
       refine hK.out _ _ ⟨(blk_cell BK382.out 0).trans rfl, (blk_cell BK382.out 1).trans rfl⟩ (fun hHeld => ?_)
       clear hK K
       refine norm_ (a' := ?_) ?_ ?_
       rotate_left
       ·show Act.put _ (some 9) _ = _
        simp only [Act.put, q1, q2, q3, i64_w, i32_w]; rfl
       refine one_ (i := 2) (N := some 24) b15_b rfl rfl (one_of HT_.out (by kernel_rfl)) (by decide) (fun K hK => ?_)
       refine goes_ Tryd.func22 (by kernel_rfl) rfl #[.int .i64 a1_0, .int .i64 31] (by rfl) rfl rfl (by (try simp only [List.map_toArray, List.map_cons, List.map_nil]); first | done | rfl) ?_
       with_reducible refine (partitalaw02_pick.calls a1_0 31 t389 _ A6.out).mono ?_
       rintro e w' ⟨rfl, ⟨nd, rfl⟩⟩
       refine ⟨_, rfl, ?_⟩
       refine hK.out _ _ ⟨(blk_cell BK382.out 0).trans rfl, (blk_cell BK382.out 1).trans rfl⟩ (fun hHeld => ?_)
       clear hK K
       refine norm_ (a' := ?_) ?_ ?_
       rotate_left
       ·show Act.put _ (some 24) _ = _
        simp only [Act.put, q1, q2, q3, i64_w, i32_w]; rfl
       refine pure_ (i := 3) (N := some 25) (v := ?_) (a' := ?_) b10_b rfl rfl (any_of HT_.out (by kernel_rfl)) (fun _ _ _ h => h) (Or.inl ⟨by rfl, ?_⟩) ?_ ?_
       rotate_left
       ·intro w'; go_simp; with_reducible rfl
       rotate_left
       ·simp only [Act.put, q1, q2, q3, i64_w, i32_w]; rfl
       refine one_ (i := 6) (N := some 28) b13_b rfl rfl (one_of HT_.out (by kernel_rfl)) (by decide) (fun K hK => ?_)
       refine goes_ Tryd.func22 (by kernel_rfl) rfl #[.int .i64 a1_1, .int .i64 51] (by rfl) rfl rfl (by (try simp only [List.map_toArray, List.map_cons, List.map_nil]); first | done | rfl) ?_
       with_reducible refine (partitalaw02_pick.calls a1_1 51 t390 _ A7.out).mono ?_
       rintro e w' ⟨rfl, ⟨nd, rfl⟩⟩
       refine ⟨_, rfl, ?_⟩
       refine hK.out _ _ ⟨(blk_cell BK382.out 0).trans rfl, (blk_cell BK382.out 1).trans rfl⟩ (fun hHeld => ?_)
       clear hK K
       refine norm_ (a' := ?_) ?_ ?_
       rotate_left
       ·show Act.put _ (some 28) _ = _
        simp only [Act.put, q1, q2, q3, i64_w, i32_w]; rfl
       refine pure_ (i := 7) (N := some 29) (v := ?_) (a' := ?_) b14_b rfl rfl (any_of HT_.out (by kernel_rfl)) (fun _ _ _ h => h) (Or.inl ⟨by rfl, ?_⟩) ?_ ?_
       rotate_left
       ·intro w'; go_simp; with_reducible rfl
       rotate_left
       ·simp only [Act.put, q1, q2, q3, i64_w, i32_w]; rfl
       refine pure_ (i := 8) (N := some 30) (v := ?_) (a' := ?_) b5_b rfl rfl (any_of HT_.out (by kernel_rfl)) (fun _ _ _ h => h) (Or.inl ⟨by rfl, ?_⟩) ?_ ?_
       rotate_left
       ·intro w'; go_simp; with_reducible rfl
       rotate_left
       ·simp only [Act.put, q1, q2, q3, i64_w, i32_w]; rfl
       exact norm_ (by simp only [putAll, Act.put, q1, q2, q3]) (hCont (gb391) _ ⟨hHeld, (zz BK381), (zz BK382), (zz BK383), (zz BK388), (zz BK391), GW391.out, GE391.out, NB381_391.out, NB391_381.out, NB382_391.out, NB391_382.out, NB383_391.out, NB391_383.out, NB388_391.out, NB391_388.out, (by repeat (first | (with_reducible first | exact HB.out | apply below_alloc | apply pw_below_drewN | apply below_drew1 | refine below_set ?_ GE381.out | refine below_set ?_ GE382.out | refine below_set ?_ GE383.out | refine below_set ?_ GE388.out | refine below_set ?_ GE391.out) | exact HB.out))⟩)
     rintro gb391 w128 ⟨hS_, h0_, h1_, h2_, h3_, h4_, h5_, h6_, h7_, h8_, h9_, h10_, h11_, h12_, h13_, h14_, h15_⟩
     have n0_ : Aside0 (w128.heap[gb381]? = some (.cells #[.int .i64 a0_0, .int .i64 a0_1, .int .i64 a0_2] 23 (0, 0))) := ⟨h0_⟩
     have n1_ : Aside0 (w128.heap[gb382]? = some (.cells #[.int .i64 a1_0, .int .i64 a1_1] 25 (0, 0))) := ⟨h1_⟩
     have n2_ : Aside0 (w128.heap[gb383]? = some (.cells #[.int .i64 a2_0, .int .i64 a2_1] 25 (0, 0))) := ⟨h2_⟩
     have n3_ : Aside0 (w128.heap[gb388]? = some (.cells #[.int .i64 t385, .int .i64 t386, .int .i64 t387] 23 (0, 0))) := ⟨h3_⟩
     have n4_ : Aside0 (w128.heap[gb391]? = some (.cells #[.int .i64 0, .int .i64 0] 25 (0, 0))) := ⟨h4_⟩
     have n5_ : Aside0 (w.heap.size ≤ gb391) := ⟨h5_⟩
     have n6_ : Aside0 (w.heap.size ≤ gb391) := ⟨h6_⟩
     have n7_ : Aside0 (gb381 ≠ gb391) := ⟨h7_⟩
     have n8_ : Aside0 (gb391 ≠ gb381) := ⟨h8_⟩
     have n9_ : Aside0 (gb382 ≠ gb391) := ⟨h9_⟩
     have n10_ : Aside0 (gb391 ≠ gb382) := ⟨h10_⟩
     have n11_ : Aside0 (gb383 ≠ gb391) := ⟨h11_⟩
     have n12_ : Aside0 (gb391 ≠ gb383) := ⟨h12_⟩
     have n13_ : Aside0 (gb388 ≠ gb391) := ⟨h13_⟩
     have n14_ : Aside0 (gb391 ≠ gb388) := ⟨h14_⟩
     have n15_ : Aside0 (Below w.heap.size w w128) := ⟨h15_⟩
     clear BK381; clear BK382; clear BK383; clear BK388; clear HB; clear h0_ h1_ h2_ h3_ h4_ h5_ h6_ h7_ h8_ h9_ h10_ h11_ h12_ h13_ h14_ h15_; have BK381 := n0_; have BK382 := n1_; have BK383 := n2_; have BK388 := n3_; have BK391 := n4_; have GW391 := n5_; have GE391 := n6_; have NB381_391 := n7_; have NB391_381 := n8_; have NB382_391 := n9_; have NB391_382 := n10_; have NB383_391 := n11_; have NB391_383 := n12_; have NB388_391 := n13_; have NB391_388 := n14_; have HB := n15_; clear n0_ n1_ n2_ n3_ n4_ n5_ n6_ n7_ n8_ n9_ n10_ n11_ n12_ n13_ n14_ n15_
     have hHeld : w128.cell? ⟨gb382, 0, none⟩ = some (.int .i64 a1_0) ∧ w128.cell? ⟨gb382, 1, none⟩ = some (.int .i64 a1_1) := hS_
     refine norm_ (a' := ?_) ?_ ?_
     rotate_left
     ·simp only [putAll, Act.put, q1, q2, q3]; rfl
     refine one_ (i := 10) (N := none) b16_b rfl rfl (one_of HT_.out (by kernel_rfl)) (by decide) (fun K hK => ?_)
     have hs129 : w128.cell? ⟨gb391, 0, none⟩ = some (.int .i64 0) := (blk_cell BK391.out 0).trans rfl
     have hfs129 := blk_frozen BK391.out 0
     have hns129_0 := NB381_391.out
     have hns129_1 := NB382_391.out
     have hns129_2 := NB383_391.out
     have hns129_3 := NB388_391.out
     have hms129_0 := NB391_381.out
     have hms129_1 := NB391_382.out
     have hms129_2 := NB391_383.out
     have hms129_3 := NB391_388.out
     have hs130 : w128.cell? ⟨gb391, 1, none⟩ = some (.int .i64 0) := (blk_cell BK391.out 1).trans rfl
     have hfs130 := blk_frozen BK391.out 1
     have hns130_0 := NB381_391.out
     have hns130_1 := NB382_391.out
     have hns130_2 := NB383_391.out
     have hns130_3 := NB388_391.out
     have hms130_0 := NB391_381.out
     have hms130_1 := NB391_382.out
     have hms130_2 := NB391_383.out
     have hms130_3 := NB391_388.out
     refine skip_ (w1 := ?_) (by rfl) rfl ?_ ?_
     rotate_left
     ·go_simp; rfl
     refine hK.out _ _ ⟨((cell_far (p := ⟨gb391, _, none⟩) NB382_391.out _).trans (((cell_far (p := ⟨gb391, _, none⟩) NB382_391.out _).trans (hHeld.1)))), ((cell_far (p := ⟨gb391, _, none⟩) NB382_391.out _).trans (((cell_far (p := ⟨gb391, _, none⟩) NB382_391.out _).trans (hHeld.2))))⟩ (fun hHeld => ?_)
     clear hK K
     refine done_ (done_of HT_.out (by kernel_rfl)) ?_
     try go_wp2
     have n0_ : Aside0 (((w128.setCell ⟨gb391, 0, none⟩ (.int .i64 (wrap64 (t389 - 15)))).setCell ⟨gb391, 1, none⟩ (.int .i64 (wrap64 (t390 - 25)))).heap[gb381]? = some (.cells #[.int .i64 a0_0, .int .i64 a0_1, .int .i64 a0_2] 23 (0, 0))) := ⟨zz BK381⟩
     have n1_ : Aside0 (((w128.setCell ⟨gb391, 0, none⟩ (.int .i64 (wrap64 (t389 - 15)))).setCell ⟨gb391, 1, none⟩ (.int .i64 (wrap64 (t390 - 25)))).heap[gb382]? = some (.cells #[.int .i64 a1_0, .int .i64 a1_1] 25 (0, 0))) := ⟨zz BK382⟩
     have n2_ : Aside0 (((w128.setCell ⟨gb391, 0, none⟩ (.int .i64 (wrap64 (t389 - 15)))).setCell ⟨gb391, 1, none⟩ (.int .i64 (wrap64 (t390 - 25)))).heap[gb383]? = some (.cells #[.int .i64 a2_0, .int .i64 a2_1] 25 (0, 0))) := ⟨zz BK383⟩
     have n3_ : Aside0 (((w128.setCell ⟨gb391, 0, none⟩ (.int .i64 (wrap64 (t389 - 15)))).setCell ⟨gb391, 1, none⟩ (.int .i64 (wrap64 (t390 - 25)))).heap[gb388]? = some (.cells #[.int .i64 t385, .int .i64 t386, .int .i64 t387] 23 (0, 0))) := ⟨zz BK388⟩
     have n4_ : Aside0 (((w128.setCell ⟨gb391, 0, none⟩ (.int .i64 (wrap64 (t389 - 15)))).setCell ⟨gb391, 1, none⟩ (.int .i64 (wrap64 (t390 - 25)))).heap[gb391]? = some (.cells #[.int .i64 (wrap64 (t389 - 15)), .int .i64 (wrap64 (t390 - 25))] 25 (0, 0))) := ⟨by (with_reducible repeat (first | refine bN ?_ _ | refine bD ?_ | refine bA ?_ _)); refine blk_put (cs := #[.int .i64 (wrap64 (t389 - 15)), .int .i64 0]) ?_ 1 _ rfl; (with_reducible repeat (first | refine bN ?_ _ | refine bD ?_ | refine bA ?_ _)); refine blk_put (cs := #[.int .i64 0, .int .i64 0]) ?_ 0 _ rfl; (with_reducible repeat (first | refine bN ?_ _ | refine bD ?_ | refine bA ?_ _)); exact BK391.out⟩
     have n5_ : Aside0 (Below w.heap.size w ((w128.setCell ⟨gb391, 0, none⟩ (.int .i64 (wrap64 (t389 - 15)))).setCell ⟨gb391, 1, none⟩ (.int .i64 (wrap64 (t390 - 25))))) := ⟨by repeat (first | (with_reducible first | exact HB.out | apply below_alloc | apply pw_below_drewN | apply below_drew1 | refine below_set ?_ GE381.out | refine below_set ?_ GE382.out | refine below_set ?_ GE383.out | refine below_set ?_ GE388.out | refine below_set ?_ GE391.out) | exact HB.out)⟩
     (try clear BK381); (try clear BK382); (try clear BK383); (try clear BK388); (try clear BK391); (try clear HB)
     generalize ((w128.setCell ⟨gb391, 0, none⟩ (.int .i64 (wrap64 (t389 - 15)))).setCell ⟨gb391, 1, none⟩ (.int .i64 (wrap64 (t390 - 25)))) = w131 at n0_ n1_ n2_ n3_ n4_ n5_ ⊢
     have BK381 := n0_; have BK382 := n1_; have BK383 := n2_; have BK388 := n3_; have BK391 := n4_; have HB := n5_; clear n0_ n1_ n2_ n3_ n4_ n5_; have n0_ := A0 (blk_drew BK381.out); have n1_ := A0 (blk_drew BK382.out); have n2_ := A0 (blk_drew BK383.out); have n3_ := A0 (blk_drew BK388.out); have n4_ := A0 (blk_drew BK391.out); have n5_ := A0 (below_drew1 HB.out); clear BK381; clear BK382; clear BK383; clear BK388; clear BK391; clear HB; have BK381 := n0_; have BK382 := n1_; have BK383 := n2_; have BK388 := n3_; have BK391 := n4_; have HB := n5_; clear n0_ n1_ n2_ n3_ n4_ n5_
     refine start_ (n := 11) (S := fun w' => w'.cell? ⟨gb383, 0, none⟩ = some (.int .i64 a2_0) ∧ w'.cell? ⟨gb383, 1, none⟩ = some (.int .i64 a2_1)) (ds := []) b0_b (by kernel_rfl) rfl rfl ⟨(blk_cell BK383.out 0).trans rfl, (blk_cell BK383.out 1).trans rfl⟩ (fun hHeld => ?_); refine with_tabW partitalaw02_PitchChain.tab4 partitalaw02_PitchChain.bits4 (fun HT_ HW_ => ?_)
     generalize w131.drew = w132 at BK381 BK382 BK383 BK388 BK391 HB hHeld ⊢
     refine pure_ (i := 0) (N := some 31) (v := ?_) (a' := ?_) b1_b rfl rfl (any_of HT_.out (by kernel_rfl)) (fun _ _ _ h => h) (Or.inl ⟨by rfl, ?_⟩) ?_ ?_
     rotate_left
     ·intro w'; go_simp; with_reducible rfl
     rotate_left
     ·simp only [Act.put, q1, q2, q3, i64_w, i32_w]; rfl
     refine pure_ (i := 4) (N := some 35) (v := ?_) (a' := ?_) b2_b rfl rfl (any_of HT_.out (by kernel_rfl)) (fun _ _ _ h => h) (Or.inl ⟨by rfl, ?_⟩) ?_ ?_
     rotate_left
     ·intro w'; go_simp; with_reducible rfl
     rotate_left
     ·simp only [Act.put, q1, q2, q3, i64_w, i32_w]; rfl
     refine take_ (i := 1) (N := some 32) (v := ?_) (a' := ?_) b3_b rfl rfl (take_ofW HT_.out HW_.out (by kernel_rfl)) (fun _ _ _ h => h) (Or.inl ⟨by rfl, ?_⟩) hHeld ?_ ?_
     rotate_left
     ·rintro w' ⟨s0, s1⟩
      go_simp; with_reducible rfl
     rotate_left
     ·simp only [Act.put, q1, q2, q3, i64_w, i32_w]; rfl
     refine take_ (i := 5) (N := some 36) (v := ?_) (a' := ?_) b4_b rfl rfl (take_ofW HT_.out HW_.out (by kernel_rfl)) (fun _ _ _ h => h) (Or.inl ⟨by rfl, ?_⟩) hHeld ?_ ?_
     rotate_left
     ·rintro w' ⟨s0, s1⟩
      go_simp; with_reducible rfl
     rotate_left
     ·simp only [Act.put, q1, q2, q3, i64_w, i32_w]; rfl
     refine join_ (σ := Nat) 1 b5_b (fun s_ => [(33, .int .i64 t392), (37, .int .i64 t393), (10, .pointer (some ⟨s_, 0, none⟩)), (34, .int .i64 (wrap64 (t392 - 15))), (38, .int .i64 (wrap64 (t393 - 25))), (39, .agg #[.int .i64 (wrap64 (t392 - 15)), .int .i64 (wrap64 (t393 - 25))])]) (fun s_ w' => (w'.cell? ⟨gb383, 0, none⟩ = some (.int .i64 a2_0) ∧ w'.cell? ⟨gb383, 1, none⟩ = some (.int .i64 a2_1)) ∧ (w'.heap[gb381]? = some (.cells #[.int .i64 a0_0, .int .i64 a0_1, .int .i64 a0_2] 23 (0, 0))) ∧ (w'.heap[gb382]? = some (.cells #[.int .i64 a1_0, .int .i64 a1_1] 25 (0, 0))) ∧ (w'.heap[gb383]? = some (.cells #[.int .i64 a2_0, .int .i64 a2_1] 25 (0, 0))) ∧ (w'.heap[gb388]? = some (.cells #[.int .i64 t385, .int .i64 t386, .int .i64 t387] 23 (0, 0))) ∧ (w'.heap[gb391]? = some (.cells #[.int .i64 (wrap64 (t389 - 15)), .int .i64 (wrap64 (t390 - 25))] 25 (0, 0))) ∧ (w'.heap[s_]? = some (.cells #[.int .i64 0, .int .i64 0] 25 (0, 0))) ∧ (w.heap.size ≤ s_) ∧ (w.heap.size ≤ s_) ∧ (gb381 ≠ s_) ∧ (s_ ≠ gb381) ∧ (gb382 ≠ s_) ∧ (s_ ≠ gb382) ∧ (gb383 ≠ s_) ∧ (s_ ≠ gb383) ∧ (gb388 ≠ s_) ∧ (s_ ≠ gb388) ∧ (gb391 ≠ s_) ∧ (s_ ≠ gb391) ∧ (Below w.heap.size w w')) ?_ ?_
     rotate_left
     ·intro hCont
      refine two_ (i := 2) (j := 9) (Ni := some 33) (Nj := some 10) b6_b b7_b rfl rfl rfl rfl (two_of HT_.out (by kernel_rfl)) (by decide) (by decide) (fun K hK => ?_) (fun K hK => ?_)
      ·skip
       refine goes_ Tryd.func22 (by kernel_rfl) rfl #[.int .i64 a2_0, .int .i64 31] (by rfl) rfl rfl (by (try simp only [List.map_toArray, List.map_cons, List.map_nil]); first | done | rfl) ?_
       with_reducible refine (partitalaw02_pick.calls a2_0 31 t392 _ A8.out).mono ?_
       rintro e w' ⟨rfl, ⟨nd, rfl⟩⟩
       refine ⟨_, rfl, ?_⟩
       refine hK.out _ _ ⟨(blk_cell BK383.out 0).trans rfl, (blk_cell BK383.out 1).trans rfl⟩ (fun hHeld => ?_)
       clear hK K
       refine norm_ (a' := ?_) ?_ ?_
       rotate_left
       ·show Act.put _ (some 33) _ = _
        simp only [Act.put, q1, q2, q3, i64_w, i32_w]; rfl
       refine pure_ (i := 3) (N := some 34) (v := ?_) (a' := ?_) b8_b rfl rfl (any_of HT_.out (by kernel_rfl)) (fun _ _ _ h => h) (Or.inl ⟨by rfl, ?_⟩) ?_ ?_
       rotate_left
       ·intro w'; go_simp; with_reducible rfl
       rotate_left
       ·simp only [Act.put, q1, q2, q3, i64_w, i32_w]; rfl
       refine two_ (i := 6) (j := 9) (Ni := some 37) (Nj := some 10) b9_b b10_b rfl rfl rfl rfl (two_of HT_.out (by kernel_rfl)) (by decide) (by decide) (fun K hK => ?_) (fun K hK => ?_)
       ·skip
        refine goes_ Tryd.func22 (by kernel_rfl) rfl #[.int .i64 a2_1, .int .i64 51] (by rfl) rfl rfl (by (try simp only [List.map_toArray, List.map_cons, List.map_nil]); first | done | rfl) ?_
        with_reducible refine (partitalaw02_pick.calls a2_1 51 t393 _ A9.out).mono ?_
        rintro e w' ⟨rfl, ⟨nd, rfl⟩⟩
        refine ⟨_, rfl, ?_⟩
        refine hK.out _ _ ⟨(blk_cell BK383.out 0).trans rfl, (blk_cell BK383.out 1).trans rfl⟩ (fun hHeld => ?_)
        clear hK K
        refine norm_ (a' := ?_) ?_ ?_
        rotate_left
        ·show Act.put _ (some 37) _ = _
         simp only [Act.put, q1, q2, q3, i64_w, i32_w]; rfl
        refine pure_ (i := 7) (N := some 38) (v := ?_) (a' := ?_) b11_b rfl rfl (any_of HT_.out (by kernel_rfl)) (fun _ _ _ h => h) (Or.inl ⟨by rfl, ?_⟩) ?_ ?_
        rotate_left
        ·intro w'; go_simp; with_reducible rfl
        rotate_left
        ·simp only [Act.put, q1, q2, q3, i64_w, i32_w]; rfl
        refine pure_ (i := 8) (N := some 39) (v := ?_) (a' := ?_) b12_b rfl rfl (any_of HT_.out (by kernel_rfl)) (fun _ _ _ h => h) (Or.inl ⟨by rfl, ?_⟩) ?_ ?_
        rotate_left
        ·intro w'; go_simp; with_reducible rfl
        rotate_left
        ·simp only [Act.put, q1, q2, q3, i64_w, i32_w]; rfl
        refine one_ (i := 9) (N := some 10) b5_b rfl rfl (one_of HT_.out (by kernel_rfl)) (by decide) (fun K hK => ?_)
        refine box_step ?hg (N := 10) ?hd (cs := #[.int .i64 0, .int .i64 0]) (t := 25) ?hr ?_; (case hd => rfl); (case hg => rfl); (case hr => go_simp)
        intro gb394 hg w133 hbox hb; have n0_ := A0 (blk_below (zz BK381) hb); have n1_ := A0 (blk_below (zz BK382) hb); have n2_ := A0 (blk_below (zz BK383) hb); have n3_ := A0 (blk_below (zz BK388) hb); have n4_ := A0 (blk_below (zz BK391) hb); have n5_ := A0 (below_step ww hb); have n6_ := A0 (hbox); have n7_ := A0 ((by rw [hg]; exact (below_size ww) : w.heap.size ≤ gb394)); have n8_ := n7_; have n9_ := A0 ((by rw [hg]; exact Nat.ne_of_lt (blk_lt (zz BK381)) : gb381 ≠ gb394)); have n10_ := A0 n9_.out.symm; have n11_ := A0 ((by rw [hg]; exact Nat.ne_of_lt (blk_lt (zz BK382)) : gb382 ≠ gb394)); have n12_ := A0 n11_.out.symm; have n13_ := A0 ((by rw [hg]; exact Nat.ne_of_lt (blk_lt (zz BK383)) : gb383 ≠ gb394)); have n14_ := A0 n13_.out.symm; have n15_ := A0 ((by rw [hg]; exact Nat.ne_of_lt (blk_lt (zz BK388)) : gb388 ≠ gb394)); have n16_ := A0 n15_.out.symm; have n17_ := A0 ((by rw [hg]; exact Nat.ne_of_lt (blk_lt (zz BK391)) : gb391 ≠ gb394)); have n18_ := A0 n17_.out.symm; clear BK381; clear BK382; clear BK383; clear BK388; clear BK391; clear HB; have BK381 := n0_; have BK382 := n1_; have BK383 := n2_; have BK388 := n3_; have BK391 := n4_; have HB := n5_; have BK394 := n6_; have GW394 := n7_; have GE394 := n8_; have NB381_394 := n9_; have NB394_381 := n10_; have NB382_394 := n11_; have NB394_382 := n12_; have NB383_394 := n13_; have NB394_383 := n14_; have NB388_394 := n15_; have NB394_388 := n16_; have NB391_394 := n17_; have NB394_391 := n18_; clear n0_ n1_ n2_ n3_ n4_ n5_ n6_ n7_ n8_ n9_ n10_ n11_ n12_ n13_ n14_ n15_ n16_ n17_ n18_; clear hb hbox hg
        refine hK.out _ _ ⟨(blk_cell BK383.out 0).trans rfl, (blk_cell BK383.out 1).trans rfl⟩ (fun hHeld => ?_)
        clear hK K
        refine norm_ (a' := ?_) ?_ ?_
        rotate_left
        ·show Act.put _ (some 10) _ = _
         simp only [Act.put, q1, q2, q3, i64_w, i32_w]; rfl
        exact norm_ (by simp only [putAll, Act.put, q1, q2, q3]) (hCont (gb394) _ ⟨hHeld, (zz BK381), (zz BK382), (zz BK383), (zz BK388), (zz BK391), (zz BK394), GW394.out, GE394.out, NB381_394.out, NB394_381.out, NB382_394.out, NB394_382.out, NB383_394.out, NB394_383.out, NB388_394.out, NB394_388.out, NB391_394.out, NB394_391.out, (by repeat (first | (with_reducible first | exact HB.out | apply below_alloc | apply pw_below_drewN | apply below_drew1 | refine below_set ?_ GE381.out | refine below_set ?_ GE382.out | refine below_set ?_ GE383.out | refine below_set ?_ GE388.out | refine below_set ?_ GE391.out | refine below_set ?_ GE394.out) | exact HB.out))⟩)
       ·skip
        refine box_step ?hg (N := 10) ?hd (cs := #[.int .i64 0, .int .i64 0]) (t := 25) ?hr ?_; (case hd => rfl); (case hg => rfl); (case hr => go_simp)
        intro gb394 hg w133 hbox hb; have n0_ := A0 (blk_below (zz BK381) hb); have n1_ := A0 (blk_below (zz BK382) hb); have n2_ := A0 (blk_below (zz BK383) hb); have n3_ := A0 (blk_below (zz BK388) hb); have n4_ := A0 (blk_below (zz BK391) hb); have n5_ := A0 (below_step ww hb); have n6_ := A0 (hbox); have n7_ := A0 ((by rw [hg]; exact (below_size ww) : w.heap.size ≤ gb394)); have n8_ := n7_; have n9_ := A0 ((by rw [hg]; exact Nat.ne_of_lt (blk_lt (zz BK381)) : gb381 ≠ gb394)); have n10_ := A0 n9_.out.symm; have n11_ := A0 ((by rw [hg]; exact Nat.ne_of_lt (blk_lt (zz BK382)) : gb382 ≠ gb394)); have n12_ := A0 n11_.out.symm; have n13_ := A0 ((by rw [hg]; exact Nat.ne_of_lt (blk_lt (zz BK383)) : gb383 ≠ gb394)); have n14_ := A0 n13_.out.symm; have n15_ := A0 ((by rw [hg]; exact Nat.ne_of_lt (blk_lt (zz BK388)) : gb388 ≠ gb394)); have n16_ := A0 n15_.out.symm; have n17_ := A0 ((by rw [hg]; exact Nat.ne_of_lt (blk_lt (zz BK391)) : gb391 ≠ gb394)); have n18_ := A0 n17_.out.symm; clear BK381; clear BK382; clear BK383; clear BK388; clear BK391; clear HB; have BK381 := n0_; have BK382 := n1_; have BK383 := n2_; have BK388 := n3_; have BK391 := n4_; have HB := n5_; have BK394 := n6_; have GW394 := n7_; have GE394 := n8_; have NB381_394 := n9_; have NB394_381 := n10_; have NB382_394 := n11_; have NB394_382 := n12_; have NB383_394 := n13_; have NB394_383 := n14_; have NB388_394 := n15_; have NB394_388 := n16_; have NB391_394 := n17_; have NB394_391 := n18_; clear n0_ n1_ n2_ n3_ n4_ n5_ n6_ n7_ n8_ n9_ n10_ n11_ n12_ n13_ n14_ n15_ n16_ n17_ n18_; clear hb hbox hg
        refine hK.out _ _ ⟨(blk_cell BK383.out 0).trans rfl, (blk_cell BK383.out 1).trans rfl⟩ (fun hHeld => ?_)
        clear hK K
        refine norm_ (a' := ?_) ?_ ?_
        rotate_left
        ·show Act.put _ (some 10) _ = _
         simp only [Act.put, q1, q2, q3, i64_w, i32_w]; rfl
        refine one_ (i := 6) (N := some 37) b13_b rfl rfl (one_of HT_.out (by kernel_rfl)) (by decide) (fun K hK => ?_)
        refine goes_ Tryd.func22 (by kernel_rfl) rfl #[.int .i64 a2_1, .int .i64 51] (by rfl) rfl rfl (by (try simp only [List.map_toArray, List.map_cons, List.map_nil]); first | done | rfl) ?_
        with_reducible refine (partitalaw02_pick.calls a2_1 51 t393 _ A9.out).mono ?_
        rintro e w' ⟨rfl, ⟨nd, rfl⟩⟩
        refine ⟨_, rfl, ?_⟩
        refine hK.out _ _ ⟨(blk_cell BK383.out 0).trans rfl, (blk_cell BK383.out 1).trans rfl⟩ (fun hHeld => ?_)
        clear hK K
        refine norm_ (a' := ?_) ?_ ?_
        rotate_left
        ·show Act.put _ (some 37) _ = _
         simp only [Act.put, q1, q2, q3, i64_w, i32_w]; rfl
        refine pure_ (i := 7) (N := some 38) (v := ?_) (a' := ?_) b14_b rfl rfl (any_of HT_.out (by kernel_rfl)) (fun _ _ _ h => h) (Or.inl ⟨by rfl, ?_⟩) ?_ ?_
        rotate_left
        ·intro w'; go_simp; with_reducible rfl
        rotate_left
        ·simp only [Act.put, q1, q2, q3, i64_w, i32_w]; rfl
        refine pure_ (i := 8) (N := some 39) (v := ?_) (a' := ?_) b5_b rfl rfl (any_of HT_.out (by kernel_rfl)) (fun _ _ _ h => h) (Or.inl ⟨by rfl, ?_⟩) ?_ ?_
        rotate_left
        ·intro w'; go_simp; with_reducible rfl
        rotate_left
        ·simp only [Act.put, q1, q2, q3, i64_w, i32_w]; rfl
        exact norm_ (by simp only [putAll, Act.put, q1, q2, q3]) (hCont (gb394) _ ⟨hHeld, (zz BK381), (zz BK382), (zz BK383), (zz BK388), (zz BK391), (zz BK394), GW394.out, GE394.out, NB381_394.out, NB394_381.out, NB382_394.out, NB394_382.out, NB383_394.out, NB394_383.out, NB388_394.out, NB394_388.out, NB391_394.out, NB394_391.out, (by repeat (first | (with_reducible first | exact HB.out | apply below_alloc | apply pw_below_drewN | apply below_drew1 | refine below_set ?_ GE381.out | refine below_set ?_ GE382.out | refine below_set ?_ GE383.out | refine below_set ?_ GE388.out | refine below_set ?_ GE391.out | refine below_set ?_ GE394.out) | exact HB.out))⟩)
      ·skip
       refine box_step ?hg (N := 10) ?hd (cs := #[.int .i64 0, .int .i64 0]) (t := 25) ?hr ?_; (case hd => rfl); (case hg => rfl); (case hr => go_simp)
       intro gb394 hg w133 hbox hb; have n0_ := A0 (blk_below (zz BK381) hb); have n1_ := A0 (blk_below (zz BK382) hb); have n2_ := A0 (blk_below (zz BK383) hb); have n3_ := A0 (blk_below (zz BK388) hb); have n4_ := A0 (blk_below (zz BK391) hb); have n5_ := A0 (below_step ww hb); have n6_ := A0 (hbox); have n7_ := A0 ((by rw [hg]; exact (below_size ww) : w.heap.size ≤ gb394)); have n8_ := n7_; have n9_ := A0 ((by rw [hg]; exact Nat.ne_of_lt (blk_lt (zz BK381)) : gb381 ≠ gb394)); have n10_ := A0 n9_.out.symm; have n11_ := A0 ((by rw [hg]; exact Nat.ne_of_lt (blk_lt (zz BK382)) : gb382 ≠ gb394)); have n12_ := A0 n11_.out.symm; have n13_ := A0 ((by rw [hg]; exact Nat.ne_of_lt (blk_lt (zz BK383)) : gb383 ≠ gb394)); have n14_ := A0 n13_.out.symm; have n15_ := A0 ((by rw [hg]; exact Nat.ne_of_lt (blk_lt (zz BK388)) : gb388 ≠ gb394)); have n16_ := A0 n15_.out.symm; have n17_ := A0 ((by rw [hg]; exact Nat.ne_of_lt (blk_lt (zz BK391)) : gb391 ≠ gb394)); have n18_ := A0 n17_.out.symm; clear BK381; clear BK382; clear BK383; clear BK388; clear BK391; clear HB; have BK381 := n0_; have BK382 := n1_; have BK383 := n2_; have BK388 := n3_; have BK391 := n4_; have HB := n5_; have BK394 := n6_; have GW394 := n7_; have GE394 := n8_; have NB381_394 := n9_; have NB394_381 := n10_; have NB382_394 := n11_; have NB394_382 := n12_; have NB383_394 := n13_; have NB394_383 := n14_; have NB388_394 := n15_; have NB394_388 := n16_; have NB391_394 := n17_; have NB394_391 := n18_; clear n0_ n1_ n2_ n3_ n4_ n5_ n6_ n7_ n8_ n9_ n10_ n11_ n12_ n13_ n14_ n15_ n16_ n17_ n18_; clear hb hbox hg
       refine hK.out _ _ ⟨(blk_cell BK383.out 0).trans rfl, (blk_cell BK383.out 1).trans rfl⟩ (fun hHeld => ?_)
       clear hK K
       refine norm_ (a' := ?_) ?_ ?_
       rotate_left
       ·show Act.put _ (some 10) _ = _
        simp only [Act.put, q1, q2, q3, i64_w, i32_w]; rfl
       refine one_ (i := 2) (N := some 33) b15_b rfl rfl (one_of HT_.out (by kernel_rfl)) (by decide) (fun K hK => ?_)
       refine goes_ Tryd.func22 (by kernel_rfl) rfl #[.int .i64 a2_0, .int .i64 31] (by rfl) rfl rfl (by (try simp only [List.map_toArray, List.map_cons, List.map_nil]); first | done | rfl) ?_
       with_reducible refine (partitalaw02_pick.calls a2_0 31 t392 _ A8.out).mono ?_
       rintro e w' ⟨rfl, ⟨nd, rfl⟩⟩
       refine ⟨_, rfl, ?_⟩
       refine hK.out _ _ ⟨(blk_cell BK383.out 0).trans rfl, (blk_cell BK383.out 1).trans rfl⟩ (fun hHeld => ?_)
       clear hK K
       refine norm_ (a' := ?_) ?_ ?_
       rotate_left
       ·show Act.put _ (some 33) _ = _
        simp only [Act.put, q1, q2, q3, i64_w, i32_w]; rfl
       refine pure_ (i := 3) (N := some 34) (v := ?_) (a' := ?_) b10_b rfl rfl (any_of HT_.out (by kernel_rfl)) (fun _ _ _ h => h) (Or.inl ⟨by rfl, ?_⟩) ?_ ?_
       rotate_left
       ·intro w'; go_simp; with_reducible rfl
       rotate_left
       ·simp only [Act.put, q1, q2, q3, i64_w, i32_w]; rfl
       refine one_ (i := 6) (N := some 37) b13_b rfl rfl (one_of HT_.out (by kernel_rfl)) (by decide) (fun K hK => ?_)
       refine goes_ Tryd.func22 (by kernel_rfl) rfl #[.int .i64 a2_1, .int .i64 51] (by rfl) rfl rfl (by (try simp only [List.map_toArray, List.map_cons, List.map_nil]); first | done | rfl) ?_
       with_reducible refine (partitalaw02_pick.calls a2_1 51 t393 _ A9.out).mono ?_
       rintro e w' ⟨rfl, ⟨nd, rfl⟩⟩
       refine ⟨_, rfl, ?_⟩
       refine hK.out _ _ ⟨(blk_cell BK383.out 0).trans rfl, (blk_cell BK383.out 1).trans rfl⟩ (fun hHeld => ?_)
       clear hK K
       refine norm_ (a' := ?_) ?_ ?_
       rotate_left
       ·show Act.put _ (some 37) _ = _
        simp only [Act.put, q1, q2, q3, i64_w, i32_w]; rfl
       refine pure_ (i := 7) (N := some 38) (v := ?_) (a' := ?_) b14_b rfl rfl (any_of HT_.out (by kernel_rfl)) (fun _ _ _ h => h) (Or.inl ⟨by rfl, ?_⟩) ?_ ?_
       rotate_left
       ·intro w'; go_simp; with_reducible rfl
       rotate_left
       ·simp only [Act.put, q1, q2, q3, i64_w, i32_w]; rfl
       refine pure_ (i := 8) (N := some 39) (v := ?_) (a' := ?_) b5_b rfl rfl (any_of HT_.out (by kernel_rfl)) (fun _ _ _ h => h) (Or.inl ⟨by rfl, ?_⟩) ?_ ?_
       rotate_left
       ·intro w'; go_simp; with_reducible rfl
       rotate_left
       ·simp only [Act.put, q1, q2, q3, i64_w, i32_w]; rfl
       exact norm_ (by simp only [putAll, Act.put, q1, q2, q3]) (hCont (gb394) _ ⟨hHeld, (zz BK381), (zz BK382), (zz BK383), (zz BK388), (zz BK391), (zz BK394), GW394.out, GE394.out, NB381_394.out, NB394_381.out, NB382_394.out, NB394_382.out, NB383_394.out, NB394_383.out, NB388_394.out, NB394_388.out, NB391_394.out, NB394_391.out, (by repeat (first | (with_reducible first | exact HB.out | apply below_alloc | apply pw_below_drewN | apply below_drew1 | refine below_set ?_ GE381.out | refine below_set ?_ GE382.out | refine below_set ?_ GE383.out | refine below_set ?_ GE388.out | refine below_set ?_ GE391.out | refine below_set ?_ GE394.out) | exact HB.out))⟩)
     rintro gb394 w134 ⟨hS_, h0_, h1_, h2_, h3_, h4_, h5_, h6_, h7_, h8_, h9_, h10_, h11_, h12_, h13_, h14_, h15_, h16_, h17_, h18_⟩
     have n0_ : Aside0 (w134.heap[gb381]? = some (.cells #[.int .i64 a0_0, .int .i64 a0_1, .int .i64 a0_2] 23 (0, 0))) := ⟨h0_⟩
     have n1_ : Aside0 (w134.heap[gb382]? = some (.cells #[.int .i64 a1_0, .int .i64 a1_1] 25 (0, 0))) := ⟨h1_⟩
     have n2_ : Aside0 (w134.heap[gb383]? = some (.cells #[.int .i64 a2_0, .int .i64 a2_1] 25 (0, 0))) := ⟨h2_⟩
     have n3_ : Aside0 (w134.heap[gb388]? = some (.cells #[.int .i64 t385, .int .i64 t386, .int .i64 t387] 23 (0, 0))) := ⟨h3_⟩
     have n4_ : Aside0 (w134.heap[gb391]? = some (.cells #[.int .i64 (wrap64 (t389 - 15)), .int .i64 (wrap64 (t390 - 25))] 25 (0, 0))) := ⟨h4_⟩
     have n5_ : Aside0 (w134.heap[gb394]? = some (.cells #[.int .i64 0, .int .i64 0] 25 (0, 0))) := ⟨h5_⟩
     have n6_ : Aside0 (w.heap.size ≤ gb394) := ⟨h6_⟩
     have n7_ : Aside0 (w.heap.size ≤ gb394) := ⟨h7_⟩
     have n8_ : Aside0 (gb381 ≠ gb394) := ⟨h8_⟩
     have n9_ : Aside0 (gb394 ≠ gb381) := ⟨h9_⟩
     have n10_ : Aside0 (gb382 ≠ gb394) := ⟨h10_⟩
     have n11_ : Aside0 (gb394 ≠ gb382) := ⟨h11_⟩
     have n12_ : Aside0 (gb383 ≠ gb394) := ⟨h12_⟩
     have n13_ : Aside0 (gb394 ≠ gb383) := ⟨h13_⟩
     have n14_ : Aside0 (gb388 ≠ gb394) := ⟨h14_⟩
     have n15_ : Aside0 (gb394 ≠ gb388) := ⟨h15_⟩
     have n16_ : Aside0 (gb391 ≠ gb394) := ⟨h16_⟩
     have n17_ : Aside0 (gb394 ≠ gb391) := ⟨h17_⟩
     have n18_ : Aside0 (Below w.heap.size w w134) := ⟨h18_⟩
     clear BK381; clear BK382; clear BK383; clear BK388; clear BK391; clear HB; clear h0_ h1_ h2_ h3_ h4_ h5_ h6_ h7_ h8_ h9_ h10_ h11_ h12_ h13_ h14_ h15_ h16_ h17_ h18_; have BK381 := n0_; have BK382 := n1_; have BK383 := n2_; have BK388 := n3_; have BK391 := n4_; have BK394 := n5_; have GW394 := n6_; have GE394 := n7_; have NB381_394 := n8_; have NB394_381 := n9_; have NB382_394 := n10_; have NB394_382 := n11_; have NB383_394 := n12_; have NB394_383 := n13_; have NB388_394 := n14_; have NB394_388 := n15_; have NB391_394 := n16_; have NB394_391 := n17_; have HB := n18_; clear n0_ n1_ n2_ n3_ n4_ n5_ n6_ n7_ n8_ n9_ n10_ n11_ n12_ n13_ n14_ n15_ n16_ n17_ n18_
     have hHeld : w134.cell? ⟨gb383, 0, none⟩ = some (.int .i64 a2_0) ∧ w134.cell? ⟨gb383, 1, none⟩ = some (.int .i64 a2_1) := hS_
     refine norm_ (a' := ?_) ?_ ?_
     rotate_left
     ·simp only [putAll, Act.put, q1, q2, q3]; rfl
     refine one_ (i := 10) (N := none) b16_b rfl rfl (one_of HT_.out (by kernel_rfl)) (by decide) (fun K hK => ?_)
     have hs135 : w134.cell? ⟨gb394, 0, none⟩ = some (.int .i64 0) := (blk_cell BK394.out 0).trans rfl
     have hfs135 := blk_frozen BK394.out 0
     have hns135_0 := NB381_394.out
     have hns135_1 := NB382_394.out
     have hns135_2 := NB383_394.out
     have hns135_3 := NB388_394.out
     have hns135_4 := NB391_394.out
     have hms135_0 := NB394_381.out
     have hms135_1 := NB394_382.out
     have hms135_2 := NB394_383.out
     have hms135_3 := NB394_388.out
     have hms135_4 := NB394_391.out
     have hs136 : w134.cell? ⟨gb394, 1, none⟩ = some (.int .i64 0) := (blk_cell BK394.out 1).trans rfl
     have hfs136 := blk_frozen BK394.out 1
     have hns136_0 := NB381_394.out
     have hns136_1 := NB382_394.out
     have hns136_2 := NB383_394.out
     have hns136_3 := NB388_394.out
     have hns136_4 := NB391_394.out
     have hms136_0 := NB394_381.out
     have hms136_1 := NB394_382.out
     have hms136_2 := NB394_383.out
     have hms136_3 := NB394_388.out
     have hms136_4 := NB394_391.out
     refine skip_ (w1 := ?_) (by rfl) rfl ?_ ?_
     rotate_left
     ·go_simp; rfl
     refine hK.out _ _ ⟨((cell_far (p := ⟨gb394, _, none⟩) NB383_394.out _).trans (((cell_far (p := ⟨gb394, _, none⟩) NB383_394.out _).trans (hHeld.1)))), ((cell_far (p := ⟨gb394, _, none⟩) NB383_394.out _).trans (((cell_far (p := ⟨gb394, _, none⟩) NB383_394.out _).trans (hHeld.2))))⟩ (fun hHeld => ?_)
     clear hK K
     refine done_ (done_of HT_.out (by kernel_rfl)) ?_
     have hnb137 := NB388_391.out
     have hnc137 := NB391_388.out
     have hnb138 := NB388_394.out
     have hnc138 := NB394_388.out
     have hcz139_0 : w134.cell? ⟨gb388, 0, none⟩ = some (.int .i64 t385) := (blk_cell BK388.out 0).trans rfl
     have hcz139_1 : w134.cell? ⟨gb388, 1, none⟩ = some (.int .i64 t386) := (blk_cell BK388.out 1).trans rfl
     have hcz139_2 : w134.cell? ⟨gb388, 2, none⟩ = some (.int .i64 t387) := (blk_cell BK388.out 2).trans rfl
     have hfz139_0 := blk_frozen BK388.out 0
     have hfz139_1 := blk_frozen BK388.out 1
     have hfz139_2 := blk_frozen BK388.out 2
     have hnb140 := NB391_381.out
     have hnc140 := NB381_391.out
     have hnb141 := NB391_382.out
     have hnc141 := NB382_391.out
     have hnb142 := NB391_383.out
     have hnc142 := NB383_391.out
     have hnb143 := NB391_394.out
     have hnc143 := NB394_391.out
     have hcz144_0 : w134.cell? ⟨gb391, 0, none⟩ = some (.int .i64 (wrap64 (t389 - 15))) := (blk_cell BK391.out 0).trans rfl
     have hcz144_1 : w134.cell? ⟨gb391, 1, none⟩ = some (.int .i64 (wrap64 (t390 - 25))) := (blk_cell BK391.out 1).trans rfl
     have hfz144_0 := blk_frozen BK391.out 0
     have hfz144_1 := blk_frozen BK391.out 1
     try go_wp2_with (first | ((with_reducible refine gate_callee (f := 23) rfl ?_); refine goesL_ (some 43) rfl rfl Tryd.func23 (by kernel_rfl) rfl #[.agg #[.int .i64 t385, .int .i64 t386, .int .i64 t387], .agg #[.int .i64 (wrap64 (t389 - 15)), .int .i64 (wrap64 (t390 - 25))]] rfl (by (try simp only [List.map_toArray, List.map_cons, List.map_nil]); first | done | rfl) ?_; (with_reducible refine (pitch_Up.calls k t385 t386 t387 (wrap64 (t389 - 15)) (wrap64 (t390 - 25)) t395 t396 t397 t398 _ ?side1 A10.out).mono ?_); (case side1 => exact GW.step HG_.out (by repeat (first | (with_reducible first | exact HB.out | apply below_alloc | apply pw_below_drewN | apply below_drew1 | refine below_set ?_ GE381.out | refine below_set ?_ GE382.out | refine below_set ?_ GE383.out | refine below_set ?_ GE388.out | refine below_set ?_ GE391.out | refine below_set ?_ GE394.out) | exact HB.out))); rintro e w145 ⟨rfl, hb⟩; refine ⟨_, rfl, ?_⟩; have n0_ := A0 (blk_below (zz BK381) hb); have n1_ := A0 (blk_below (zz BK382) hb); have n2_ := A0 (blk_below (zz BK383) hb); have n3_ := A0 (blk_below (zz BK388) hb); have n4_ := A0 (blk_below (zz BK391) hb); have n5_ := A0 (blk_below (g := gb394) (o := .cells #[.int .i64 (wrap64 (t392 - 15)), .int .i64 (wrap64 (t393 - 25))] 25 (0, 0)) (by (with_reducible repeat (first | refine bN ?_ _ | refine bD ?_ | refine bA ?_ _)); refine blk_put (cs := #[.int .i64 (wrap64 (t392 - 15)), .int .i64 0]) ?_ 1 _ rfl; (with_reducible repeat (first | refine bN ?_ _ | refine bD ?_ | refine bA ?_ _)); refine blk_put (cs := #[.int .i64 0, .int .i64 0]) ?_ 0 _ rfl; (with_reducible repeat (first | refine bN ?_ _ | refine bD ?_ | refine bA ?_ _)); exact BK394.out) hb); have n6_ := A0 (below_step ww hb); clear BK381; clear BK382; clear BK383; clear BK388; clear BK391; clear BK394; clear HB; have BK381 := n0_; have BK382 := n1_; have BK383 := n2_; have BK388 := n3_; have BK391 := n4_; have BK394 := n5_; have HB := n6_; clear n0_ n1_ n2_ n3_ n4_ n5_ n6_; (try clear hb)) | ((with_reducible refine gate_dst (N := 11) rfl ?_); refine box_event ?hg (N := 11) ?hd (cs := #[.int .i64 0, .int .i64 0, .int .i64 0]) (t := 23) ?hr ?_; (case hd => rfl); (case hg => rfl); (case hr => go_simp); intro gb399 hg w146 hbox hb; have n0_ := A0 (blk_below (zz BK381) hb); have n1_ := A0 (blk_below (zz BK382) hb); have n2_ := A0 (blk_below (zz BK383) hb); have n3_ := A0 (blk_below (zz BK388) hb); have n4_ := A0 (blk_below (zz BK391) hb); have n5_ := A0 (blk_below (zz BK394) hb); have n6_ := A0 (below_step ww hb); have n7_ := A0 (hbox); have n8_ := A0 ((by rw [hg]; exact (below_size ww) : w.heap.size ≤ gb399)); have n9_ := n8_; have n10_ := A0 ((by rw [hg]; exact Nat.ne_of_lt (blk_lt (zz BK381)) : gb381 ≠ gb399)); have n11_ := A0 n10_.out.symm; have n12_ := A0 ((by rw [hg]; exact Nat.ne_of_lt (blk_lt (zz BK382)) : gb382 ≠ gb399)); have n13_ := A0 n12_.out.symm; have n14_ := A0 ((by rw [hg]; exact Nat.ne_of_lt (blk_lt (zz BK383)) : gb383 ≠ gb399)); have n15_ := A0 n14_.out.symm; have n16_ := A0 ((by rw [hg]; exact Nat.ne_of_lt (blk_lt (zz BK388)) : gb388 ≠ gb399)); have n17_ := A0 n16_.out.symm; have n18_ := A0 ((by rw [hg]; exact Nat.ne_of_lt (blk_lt (zz BK391)) : gb391 ≠ gb399)); have n19_ := A0 n18_.out.symm; have n20_ := A0 ((by rw [hg]; exact Nat.ne_of_lt (blk_lt (zz BK394)) : gb394 ≠ gb399)); have n21_ := A0 n20_.out.symm; clear BK381; clear BK382; clear BK383; clear BK388; clear BK391; clear BK394; clear HB; have BK381 := n0_; have BK382 := n1_; have BK383 := n2_; have BK388 := n3_; have BK391 := n4_; have BK394 := n5_; have HB := n6_; have BK399 := n7_; have GW399 := n8_; have GE399 := n9_; have NB381_399 := n10_; have NB399_381 := n11_; have NB382_399 := n12_; have NB399_382 := n13_; have NB383_399 := n14_; have NB399_383 := n15_; have NB388_399 := n16_; have NB399_388 := n17_; have NB391_399 := n18_; have NB399_391 := n19_; have NB394_399 := n20_; have NB399_394 := n21_; clear n0_ n1_ n2_ n3_ n4_ n5_ n6_ n7_ n8_ n9_ n10_ n11_ n12_ n13_ n14_ n15_ n16_ n17_ n18_ n19_ n20_ n21_; clear hb hbox hg; have hnb147 := NB399_381.out; have hnc147 := NB381_399.out; have hnb148 := NB399_382.out; have hnc148 := NB382_399.out; have hnb149 := NB399_383.out; have hnc149 := NB383_399.out; have hnb150 := NB399_388.out; have hnc150 := NB388_399.out; have hnb151 := NB399_391.out; have hnc151 := NB391_399.out; have hnb152 := NB399_394.out; have hnc152 := NB394_399.out; have hcz153_0 : w146.cell? ⟨gb399, 0, none⟩ = some (.int .i64 0) := (blk_cell BK399.out 0).trans rfl; have hcz153_1 : w146.cell? ⟨gb399, 1, none⟩ = some (.int .i64 0) := (blk_cell BK399.out 1).trans rfl; have hcz153_2 : w146.cell? ⟨gb399, 2, none⟩ = some (.int .i64 0) := (blk_cell BK399.out 2).trans rfl; have hfz153_0 := blk_frozen BK399.out 0; have hfz153_1 := blk_frozen BK399.out 1; have hfz153_2 := blk_frozen BK399.out 2))
     go_ret
     exact ⟨by first | rfl | (simp [*]; done), by repeat (first | (with_reducible first | exact HB.out | apply below_alloc | apply pw_below_drewN | apply below_drew1 | refine below_set ?_ GE381.out | refine below_set ?_ GE382.out | refine below_set ?_ GE383.out | refine below_set ?_ GE388.out | refine below_set ?_ GE391.out | refine below_set ?_ GE394.out | refine below_set ?_ GE399.out) | exact HB.out)⟩
    ·rw [if_neg c111] at H
     have c111b0 : (t398 == 20) = false := beq_eq_false_iff_ne.mpr c111
     have c111b1 : (t398 != 20) = true := bne_iff_ne.mpr c111
     exact absurd H (by rw [HR_.out]; simp)
   ·replace c110 := Bool.eq_false_iff.mpr c110
    subst c110
    have H1 : (some false) = some r := by rw [if_neg (show ¬ (false = true) by decide)] at H; exact H
    clear H; have H := H1; clear H1
    exact absurd H (by rw [HR_.out]; simp)

/-- THE ONE PURE STATEMENT of partitalaw02_PitchChain: yours. -/
def partitalaw02_PitchChain.Pure : Prop := ∀ (a0_0 : Int) (a0_1 : Int) (a0_2 : Int) (a1_0 : Int) (a1_1 : Int) (a2_0 : Int) (a2_1 : Int), (Lit.int .i64 a0_0).wf = true → (Lit.int .i64 a0_1).wf = true → (Lit.int .i64 a0_2).wf = true → (Lit.int .i64 a1_0).wf = true → (Lit.int .i64 a1_1).wf = true → (Lit.int .i64 a2_0).wf = true → (Lit.int .i64 a2_1).wf = true → ∃ k, partitalaw02_PitchChain.f k a0_0 a0_1 a0_2 a1_0 a1_1 a2_0 a2_1 = some true
theorem partitalaw02_PitchChain.walk (P : partitalaw02_PitchChain.Pure) (a0_0 : Int) (a0_1 : Int) (a0_2 : Int) (a1_0 : Int) (a1_1 : Int) (a2_0 : Int) (a2_1 : Int) (w : World) (hG_ : GW w) (w0_0 : (Lit.int .i64 a0_0).wf = true) (w0_1 : (Lit.int .i64 a0_1).wf = true) (w0_2 : (Lit.int .i64 a0_2).wf = true) (w1_0 : (Lit.int .i64 a1_0).wf = true) (w1_1 : (Lit.int .i64 a1_1).wf = true) (w2_0 : (Lit.int .i64 a2_0).wf = true) (w2_1 : (Lit.int .i64 a2_1).wf = true) :
   Calls Tryd.prog 7 #[.agg #[.int .i64 a0_0, .int .i64 a0_1, .int .i64 a0_2], .agg #[.int .i64 a1_0, .int .i64 a1_1], .agg #[.int .i64 a2_0, .int .i64 a2_1]] w fun e w' => e = .returned (.bool true) ∧ Below w.heap.size w w' := by
  obtain ⟨k, h⟩ := P a0_0 a0_1 a0_2 a1_0 a1_1 a2_0 a2_1 w0_0 w0_1 w0_2 w1_0 w1_1 w2_0 w2_1
  refine (partitalaw02_PitchChain.calls k a0_0 a0_1 a0_2 a1_0 a1_1 a2_0 a2_1 true w rfl hG_ h).mono ?_
  rintro e w' ⟨rfl, hd⟩
  exact ⟨rfl, hd⟩

end Go.Proofs.YtnpinngdiipogaaDoor.M
